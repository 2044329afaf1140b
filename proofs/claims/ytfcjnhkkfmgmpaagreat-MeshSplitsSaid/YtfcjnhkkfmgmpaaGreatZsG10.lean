import Derived.Test.YtfcjnhkkfmgmpaaGreatZsG9
import Derived.Handy
set_option linter.all false
set_option maxRecDepth 100000
set_option maxHeartbeats 8000000
namespace Go.Proofs.YtfcjnhkkfmgmpaaGreat
open Go.RowKit aR
def bl (n:Bool) (v:Int):Int:=if n then -v else v
theorem xR (n:Bool) (A0:Option Addr) (k c0:Nat) (l:List Int) (hk:l.length=k) (hk4:k≤4000) (hc0:k≤c0) (w:World) (ha:RL w A0 l) (hla:aJ l) :
  Calls Tryz.prog 119 #[.agg #[.bool n,.slice A0 k c0]] w fun e w'=>e = .returned (.agg #[.bool (decide (bl n (lv l)<0)),.string (ey (lv l))])∧Below w.heap.size w w':=by
 have hb2:Below w.heap.size w ((w.alloc (.cells #[.bool n,.slice A0 k c0] 151)).alloc (.cells #[.bool false,.string ⟨#[]⟩] 38)):=((Below.refl _ _).alloc (Nat.le_refl _) _).alloc (by simp) _;have HN:=Lib.hid (alx A0 k c0 l hk hk4 hc0 _ (ha.below hb2 (Nat.le_refl _)) hla);have hpos:=dG hla;have h1:decide ((4000:Int)<(k:Int))=false:=by simp;omega
 have HS:=Lib.hid hb2;have hz:lv l=0∨0<lv l:=by omega
 obtain⟨s,hs⟩:∃ s,ey (lv l)=s:=⟨_,rfl⟩
 have hss:s.size=nb (lv l):=by rw[← hs];exact wC _
 obtain⟨b,hb⟩:∃ b,decide (bl n (lv l)<0)=b:=⟨_,rfl⟩
 rw[hs,hb];have HE:=Lib.hid hs;cases n with
 | false =>
  have G4:b=false:=by rw[← hb];simp[bl];omega
  subst G4;clear ha hla hk hb2 hpos hz hs hss hb;go_enter Tryz.func119,Tryz.ntmps119;go_wp2_with fail
  refine(HN.out).mono ?_;rintro e w' ⟨rfl,i_⟩;rw[HE.out];have c0:=i_.cell (p:=⟨w.heap.size,0,none⟩) (by simp;omega);have c1:w'.cell? ⟨w.heap.size+1,0,none⟩=some (.bool false):=(i_.cell (by simp)).trans (by simp[go_sem]);have c2:w'.cell? ⟨w.heap.size+1,1,none⟩=some (.string ⟨#[]⟩):=(i_.cell (by simp)).trans (by simp[go_sem]);have f1:=i_.frozen (p:=⟨w.heap.size+1,0,none⟩) (by simp);have f2:=i_.frozen (p:=⟨w.heap.size+1,1,none⟩) (by simp);have HB:=Lib.hid (HS.out.trans (i_.mono (by simp;omega)));clear i_;go_wp2
  refine bodyPost_ret (by simp[results,Tryz.results119,go_sem,c1,c2];try rfl) rfl ?_;exact⟨rfl,(HB.out.setCell (by simp) _).setCell (by simp) _⟩
 | true =>
  rcases hz with hz|hz
  ·have G4:b=false:=by rw[← hb];simp[bl];omega
   obtain⟨t1,t2⟩:=toList_nil (s:=s) (by rw[hss,hz,wH]);subst G4;clear ha hla hk hb2 hpos hz hs hss hb;go_enter Tryz.func119,Tryz.ntmps119;go_wp2_with fail
   refine(HN.out).mono ?_;rintro e w' ⟨rfl,i_⟩;rw[HE.out];have c0:=i_.cell (p:=⟨w.heap.size,0,none⟩) (by simp;omega);have c1:w'.cell? ⟨w.heap.size+1,0,none⟩=some (.bool false):=(i_.cell (by simp)).trans (by simp[go_sem]);have c2:w'.cell? ⟨w.heap.size+1,1,none⟩=some (.string ⟨#[]⟩):=(i_.cell (by simp)).trans (by simp[go_sem]);have f1:=i_.frozen (p:=⟨w.heap.size+1,0,none⟩) (by simp);have f2:=i_.frozen (p:=⟨w.heap.size+1,1,none⟩) (by simp);have HB:=Lib.hid (HS.out.trans (i_.mono (by simp;omega)));clear i_;go_wp2
   refine bodyPost_ret (by simp[results,Tryz.results119,go_sem,c1,c2];try rfl) rfl ?_;exact⟨rfl,(HB.out.setCell (by simp) _).setCell (by simp) _⟩
  ·have G4:b=true:=by rw[← hb];simp[bl];omega
   obtain⟨t1,t2⟩:=xE (s:=s) (by rw[hss];exact(Cl hz).2.2);subst G4;clear ha hla hk hb2 hpos hz hs hss hb;go_enter Tryz.func119,Tryz.ntmps119;go_wp2_with fail
   refine(HN.out).mono ?_;rintro e w' ⟨rfl,i_⟩;rw[HE.out];have c0:=i_.cell (p:=⟨w.heap.size,0,none⟩) (by simp;omega);have c1:w'.cell? ⟨w.heap.size+1,0,none⟩=some (.bool false):=(i_.cell (by simp)).trans (by simp[go_sem]);have c2:w'.cell? ⟨w.heap.size+1,1,none⟩=some (.string ⟨#[]⟩):=(i_.cell (by simp)).trans (by simp[go_sem]);have f1:=i_.frozen (p:=⟨w.heap.size+1,0,none⟩) (by simp);have f2:=i_.frozen (p:=⟨w.heap.size+1,1,none⟩) (by simp);have HB:=Lib.hid (HS.out.trans (i_.mono (by simp;omega)));clear i_;go_wp2
   refine bodyPost_ret (by simp[results,Tryz.results119,go_sem,c1,c2];try rfl) rfl ?_;exact⟨rfl,(HB.out.setCell (by simp) _).setCell (by simp) _⟩
def aoV (v:Int) (w:World) (e:Ending) (w':World):Prop:=∃ n x r,e = .returned (.agg #[.bool n,x])∧oT w' x r∧aJ r∧Tr r∧bl n (lv r)=v∧Below w.heap.size w w'
theorem RL.Of {w:World} {A:Option Addr} {l:List Int} {p:Addr} {v:Value} (h:RL w A l) (hc:w.cell? p=some v) (hv:∀ x,v ≠ .int .u64 x) (u:Value):RL (w.setCell p u) A l :=
 ⟨h.1,fun hn=>by
  obtain⟨ad,e,cj⟩:=h.2 hn
  refine⟨ad,e,fun j hj=>?_⟩
  rw[World.cell?_setCell_other]
  ·exact cj j hj
  ·intro e2
   have:=cj j hj
   rw[← e2,hc]at this
   injection this with this
   exact hv _ this⟩
theorem RL.pair {w:World} {A:Option Addr} {l:List Int} {g:Nat} {n0:Bool} {B0:Option Addr} {k0 c0:Nat} (h:RL w A l) (h0:w.cell? ⟨g,0,none⟩=some (.bool n0)) (h1:w.cell? ⟨g,1,none⟩=some (.slice B0 k0 c0)) (u v:Value):RL ((w.setCell ⟨g,0,none⟩ u).setCell ⟨g,1,none⟩ v) A l:=by
 refine RL.Of (RL.Of h h0 (by simp) u) (v := .slice B0 k0 c0) ?_ (by simp) v;exact(World.cell?_setCell_other w ⟨g,0,none⟩ ⟨g,1,none⟩ u (by simp)).trans h1
theorem S6 (n1 n2:Bool) (A1 A2:Option Addr) (k1 k2 c1 c2:Nat) (a b:List Int) (h1:a.length=k1) (h2:b.length=k2) (Pk:k1≤4000) (Pm:k2≤4000) (hc1:k1≤c1) (hc2:k2≤c2) (w:World) (ha:RL w A1 a) (hb:RL w A2 b) (hla:aJ a) (hlb:aJ b) :
  Calls Tryz.prog 124 #[.agg #[.bool n1,.slice A1 k1 c1],.agg #[.bool n2,.slice A2 k2 c2]] w (aoV (bl n1 (lv a)+bl n2 (lv b)) w):=by
 obtain⟨w3,hw3⟩:∃ w3,w3=((w.alloc (.cells #[.bool n1,.slice A1 k1 c1] 151)).alloc (.cells #[.bool n2,.slice A2 k2 c2] 151)).alloc (.cells #[.bool false,.slice none 0 0] 151):=⟨_,rfl⟩
 have hb3:Below w.heap.size w w3:=by rw[hw3];exact(((Below.refl _ _).alloc (Nat.le_refl _) _).alloc (by simp) _).alloc (by simp;omega) _
 have HA:=Lib.hid (ha.below hb3 (Nat.le_refl _));have HB:=Lib.hid (hb.below hb3 (Nat.le_refl _));have d0:w3.cell? ⟨w.heap.size,0,none⟩=some (.bool n1):=by rw[hw3];simp[go_sem]
 have d1:w3.cell? ⟨w.heap.size,1,none⟩=some (.slice A1 k1 c1):=by rw[hw3];simp[go_sem]
 have d2:w3.cell? ⟨w.heap.size+1,0,none⟩=some (.bool n2):=by rw[hw3];simp[go_sem]
 have d3:w3.cell? ⟨w.heap.size+1,1,none⟩=some (.slice A2 k2 c2):=by rw[hw3];simp[go_sem]
 have d4:w3.cell? ⟨w.heap.size+2,0,none⟩=some (.bool false):=by rw[hw3];simp[go_sem]
 have d5:w3.cell? ⟨w.heap.size+2,1,none⟩=some (.slice none 0 0):=by rw[hw3];simp[go_sem]
 have d6:w3.frozen? ⟨w.heap.size+2,0,none⟩=false:=by rw[hw3];simp[go_sem]
 have d7:w3.frozen? ⟨w.heap.size+2,1,none⟩=false:=by rw[hw3];simp[go_sem]
 have hsz:w3.heap.size=w.heap.size+3:=by rw[hw3];simp
 have HW:=Lib.hid hw3;have HS:=Lib.hid hb3;have eR:=Lib.hid hsz
 have hk1:=fun (w':World) (h:Below w3.heap.size w3 w')=>(show w'.cell? ⟨w.heap.size,0,none⟩=some (.bool n1)∧w'.cell? ⟨w.heap.size,1,none⟩=some (.slice A1 k1 c1)∧w'.cell? ⟨w.heap.size+1,0,none⟩=some (.bool n2)∧w'.cell? ⟨w.heap.size+1,1,none⟩=some (.slice A2 k2 c2)∧w'.cell? ⟨w.heap.size+2,0,none⟩=some (.bool false)∧w'.cell? ⟨w.heap.size+2,1,none⟩=some (.slice none 0 0)∧w'.frozen? ⟨w.heap.size+2,0,none⟩=false∧w'.frozen? ⟨w.heap.size+2,1,none⟩=false from
  ⟨(h.cell (by simp[hsz];try omega)).trans d0,(h.cell (by simp[hsz];try omega)).trans d1,(h.cell (by simp[hsz];try omega)).trans d2,(h.cell (by simp[hsz];try omega)).trans d3,(h.cell (by simp[hsz];try omega)).trans d4,(h.cell (by simp[hsz];try omega)).trans d5,(h.frozen (by simp[hsz];try omega)).trans d6,(h.frozen (by simp[hsz];try omega)).trans d7⟩)
 have HK:=Lib.hid hk1;by_cases hn:n1=n2
 ·subst hn
  have HC:=Lib.hid (alr A1 A2 k1 k2 c1 c2 a b h1 h2 Pk Pm w3 HA.out HB.out hla hlb);have Br:bl n1 (lv a+lv b)=bl n1 (lv a)+bl n1 (lv b):=by cases n1 <;> simp[bl];try omega
  have HV:=Lib.hid Br;clear Br;have ht:(n1==n1)=true:=by simp
  clear d0 d1 d2 d3 d4 d5 d6 d7 hk1 hsz hb3 ha hb hla hlb hw3;go_enter Tryz.func124,Tryz.ntmps124;go_wp2_with fail
  rw[← HW.out];refine(HC.out).mono ?_;rintro e w' ⟨x,r,rfl,hr,hlr,dM,gw,hbr⟩;obtain⟨A,cc,rfl,hrc,hrl⟩:=hr;obtain⟨e0,e1,e2,e3,e4,e5,e6,e7⟩:=HK.out _ hbr;have HR:=Lib.hid (And.intro hrc (And.intro hrl (And.intro hlr (And.intro dM (And.intro gw (HS.out.trans (hbr.mono (by rw[eR.out];omega))))))));clear hrc hrl hlr dM gw hbr;go_wp2
  refine bodyPost_ret (by simp[results,Tryz.results124,go_sem,e0,e1,e2,e3,e4,e5];try rfl) rfl ?_;obtain⟨hrc,hrl,hlr,dM,gw,hbl⟩:=HR.out;exact⟨_,_,r,rfl,⟨A,cc,rfl,hrc,hrl.pair e4 e5 _ _⟩,hlr,dM,by rw[gw];exact HV.out,(hbl.setCell (by simp;try omega) _).setCell (by simp;try omega) _⟩
 ·have ht:(n1==n2)=false:=beq_eq_false_iff_ne.mpr hn
  have hn2:n2=!n1:=by cases n1 <;> cases n2 <;> simp_all
  by_cases hlt:lv b≤lv a
  ·have Br:bl n1 (lv a-lv b)=bl n1 (lv a)+bl n2 (lv b):=by rw[hn2];cases n1 <;> simp[bl] <;> omega
   have HV:=Lib.hid Br;have HL:=Lib.hid hlt;have HC:=Lib.hid (SV A1 A2 k1 k2 c1 c2 a b h1 h2 Pk Pm hc1 hc2 w3 HA.out HB.out hla hlb);clear Br hn hn2 hlt;clear d0 d1 d2 d3 d4 d5 d6 d7 hk1 hsz hb3 ha hb hla hlb hw3;go_enter Tryz.func124,Tryz.ntmps124;go_wp2_with fail
   rw[← HW.out];refine(HC.out).mono ?_;rintro e w' ⟨hsp,-⟩;obtain⟨x,r,rfl,hr,hlr,dM,gw,hbr⟩:=hsp HL.out;clear hsp;obtain⟨A,cc,rfl,hrc,hrl⟩:=hr;obtain⟨e0,e1,e2,e3,e4,e5,e6,e7⟩:=HK.out _ hbr;have HR:=Lib.hid (And.intro hrc (And.intro hrl (And.intro hlr (And.intro dM (And.intro gw (HS.out.trans (hbr.mono (by rw[eR.out];omega))))))));clear hrc hrl hlr dM gw hbr;go_wp2
   refine bodyPost_ret (by simp[results,Tryz.results124,go_sem,e0,e1,e2,e3,e4,e5];try rfl) rfl ?_;obtain⟨hrc,hrl,hlr,dM,gw,hbl⟩:=HR.out;exact⟨_,_,r,rfl,⟨A,cc,rfl,hrc,hrl.pair e4 e5 _ _⟩,hlr,dM,by rw[gw];exact HV.out,(hbl.setCell (by simp;try omega) _).setCell (by simp;try omega) _⟩
  ·have Br:bl n2 (lv b-lv a)=bl n1 (lv a)+bl n2 (lv b):=by rw[hn2];cases n1 <;> simp[bl] <;> omega
   have HV:=Lib.hid Br;have HL:=Lib.hid (Int.lt_of_not_ge hlt);have HC:=Lib.hid (SV A1 A2 k1 k2 c1 c2 a b h1 h2 Pk Pm hc1 hc2 w3 HA.out HB.out hla hlb);have qO:=fun (w':World) (h:Below w3.heap.size w3 w')=>SV A2 A1 k2 k1 c2 c1 b a h2 h1 Pm Pk hc2 hc1 w' (HB.out.below h (Nat.le_refl _)) (HA.out.below h (Nat.le_refl _)) hlb hla;clear Br hn hn2 hlt;clear d0 d1 d2 d3 d4 d5 d6 d7 hk1 hsz hb3 ha hb hla hlb hw3;go_enter Tryz.func124,Tryz.ntmps124;go_wp2_with fail
   rw[← HW.out];refine(HC.out).mono ?_;rintro e w' ⟨-,hsp⟩;obtain⟨rfl,Pn⟩:=hsp HL.out;clear hsp;obtain⟨e0,e1,e2,e3,e4,e5,e6,e7⟩:=HK.out _ Pn;have nS:=Lib.hid (qO w' Pn);have HBS:=Lib.hid Pn;clear Pn qO;go_wp2_with fail
   clear e0 e1 e2 e3 e4 e5 e6 e7;refine(nS.out).mono ?_;rintro e w5 ⟨hsp,-⟩;obtain⟨x,r,rfl,hr,hlr,dM,gw,hbr⟩:=hsp (Int.le_of_lt HL.out);clear hsp;obtain⟨A,cc,rfl,hrc,hrl⟩:=hr;have bY:=HBS.out.trans (hbr.mono HBS.out.size);obtain⟨e0,e1,e2,e3,e4,e5,e6,e7⟩:=HK.out _ bY;have HR:=Lib.hid (And.intro hrc (And.intro hrl (And.intro hlr (And.intro dM (And.intro gw (HS.out.trans (bY.mono (by rw[eR.out];omega))))))));clear hrc hrl hlr dM gw hbr bY;go_wp2
   refine bodyPost_ret (by simp[results,Tryz.results124,go_sem,e0,e1,e2,e3,e4,e5];try rfl) rfl ?_;obtain⟨hrc,hrl,hlr,dM,gw,hbl⟩:=HR.out;exact⟨_,_,r,rfl,⟨A,cc,rfl,hrc,hrl.pair e4 e5 _ _⟩,hlr,dM,by rw[gw];exact HV.out,(hbl.setCell (by simp;try omega) _).setCell (by simp;try omega) _⟩
structure S7 (w:World) (g i:Nat) (n:Bool) (s:ByteArray) (g1 k1:Nat) (r1:List Int):Prop where
 c0:w.cell? ⟨g,i,none⟩=some (.bool n)
 c1:w.cell? ⟨g,i+1,none⟩=some (.slice (some ⟨g1,0,none⟩) k1 k1)
 f0:w.frozen? ⟨g,i,none⟩=false
 len:r1.length=k1
 le:k1≤4000
 row:RL w (some ⟨g1,0,none⟩) r1
 bF:aJ r1
 tr:Tr r1
 val:lv r1=nv s
def akG (n1:Bool) (s1:ByteArray) (n2:Bool) (s2:ByteArray) (w:World) (e:Ending) (w':World):Prop :=
 ∃ g c g1 k1 r1 g2 k2 r2,e = .returned (.tuple #[.slice (some ⟨g,0,none⟩) 2 c,.int .i64 0])∧w.heap.size≤g∧2≤c∧S7 w' g 0 n1 s1 g1 k1 r1∧S7 w' g 2 n2 s2 g2 k2 r2∧Below w.heap.size w w'
theorem X4 {w0 base k:Nat} {w:World} {g:Nat} {cur:Array Value} {rs:List (Value × Value)} {t:TypeId} (hg:w.heap[g]?=some (.cells cur t (0,0))) (ht:cur.toList.take (k*2)=flat rs) (j:Nat) (p:Bool × ByteArray) (q:Value × Value) (hq:rs[j]?=some q) (ho:Jy base w p q) :
  ∃ g1 k1 r1,S7 w g (j*2) p.1 p.2 g1 k1 r1:=by
 obtain⟨h1,g1,n1,r,h2,hb,h3,h4,h5,h6,h7,h8⟩:=ho;have hf:∀ (l:List (Value × Value)) (j:Nat) (q:Value × Value),l[j]?=some q→(flat l)[j*2]?=some q.1∧(flat l)[j*2+1]?=some q.2:=by
  intro l;induction l with
  | nil=>intro j q h;simp at h
  | cons a l ih =>
   intro j q h;cases j with
   | zero=>simp at h;subst h;exact⟨rfl,rfl⟩
   | succ j =>
    rw[List.getElem?_cons_succ]at h
    have:=ih j q h;have e:flat (a::l)=a.1::a.2::flat l:=by simp[flat]
    rw[e,show(j+1)*2=j*2+2 by omega];exact this
 obtain⟨f1,f2⟩:=hf rs j q hq;rw[← ht,List.getElem?_take]at f1 f2
 split at f1 <;> try contradiction
 split at f2 <;> try contradiction
 refine⟨g1,n1,r,?_,?_,?_,h3,h4,h5.RL (by omega),h6,h7,h8⟩
 ·unfold World.cell?
  rw[show w.heap[(⟨g,j*2,none⟩:Addr).block]?=_ from hg];rw[h1]at f1
  simpa using f1
 ·unfold World.cell?
  rw[show w.heap[(⟨g,j*2+1,none⟩:Addr).block]?=_ from hg];rw[h2]at f2
  simpa using f2
 ·unfold World.frozen?
  rw[show w.heap[(⟨g,j*2,none⟩:Addr).block]?=_ from hg];simp
theorem Mp (n1:Bool) (s1:ByteArray) (n2:Bool) (s2:ByteArray) (g c:Nat) (w:World) (h0:w.cell? ⟨g,0,none⟩=some (.bool n1)) (h1:w.cell? ⟨g,1,none⟩=some (.string s1)) (h2:w.cell? ⟨g,2,none⟩=some (.bool n2)) (h3:w.cell? ⟨g,3,none⟩=some (.string s2)) (hk1:fZ n1 s1) (hk2:fZ n2 s2) :
  Calls Tryz.prog 117 #[.slice (some ⟨g,0,none⟩) 2 c] w (akG n1 s1 n2 s2 w):=by
 refine(ag6 ⟨g,0,none⟩ [(n1,s1),(n2,s2)] 2 c rfl (by omega) w ?_ ?_).mono ?_
 ·intro j n s h
  match j,h with
  | 0,h=>simp at h;obtain⟨rfl,rfl⟩:=h;exact⟨by simpa [Addr.add] using h0,by simpa [Addr.add] using h1⟩
  | 1,h=>simp at h;obtain⟨rfl,rfl⟩:=h;exact⟨by simpa [Addr.add] using h2,by simpa [Addr.add] using h3⟩
  | j+2,h=>simp at h
 ·intro p hp
  simp at hp;rcases hp with rfl|rfl
  ·exact hk1
  ·exact hk2
 ·rintro e w' ⟨v,rs,rfl,own,len,ok,ez⟩
  obtain⟨hl,⟨-,h⟩|⟨g',cap,cur,rfl,hb,hh,hc,_,_,ht⟩⟩:=own
  ·omega
  ·obtain⟨a,ha⟩:∃ a,rs[0]?=some a:=⟨_,List.getElem?_eq_getElem (by omega)⟩
   obtain⟨b,hb'⟩:∃ a,rs[1]?=some a:=⟨_,List.getElem?_eq_getElem (by omega)⟩
   obtain⟨g1,k1,r1,q1⟩:=X4 (w0:=0) hh ht 0 (n1,s1) a ha (ok 0 _ _ (by omega) rfl ha);obtain⟨g2,k2,r2,q2⟩:=X4 (w0:=0) hh ht 1 (n2,s2) b hb' (ok 1 _ _ (by omega) rfl hb');exact⟨g',cap,g1,k1,r1,g2,k2,r2,rfl,hb,hc,q1,q2,ez⟩
def iy (n1:Bool) (s1:ByteArray) (n2:Bool) (s2:ByteArray):Int:=if gN n1 s1≠0 then gN n1 s1 else gN n2 s2
theorem Cm {n1:Bool} {s1:ByteArray} {n2:Bool} {s2:ByteArray}:iy n1 s1 n2 s2=0↔fZ n1 s1∧fZ n2 s2:=by
 unfold iy;rw[← qw,← qw];split
 ·constructor
  ·intro h;contradiction
  ·intro h;exact h.1
 ·rename_i h
  have h0:gN n1 s1=0:=Decidable.not_not.1 h;exact⟨fun h=>⟨h0,h⟩,fun h=>h.2⟩
theorem LX (n1:Bool) (s1:ByteArray) (n2:Bool) (s2:ByteArray) (g c:Nat) (w:World) (h0:w.cell? ⟨g,0,none⟩=some (.bool n1)) (h1:w.cell? ⟨g,1,none⟩=some (.string s1)) (h2:w.cell? ⟨g,2,none⟩=some (.bool n2)) (h3:w.cell? ⟨g,3,none⟩=some (.string s2)) (hb:iy n1 s1 n2 s2≠0) :
  Calls Tryz.prog 117 #[.slice (some ⟨g,0,none⟩) 2 c] w fun e w'=>e = .returned (.tuple #[.slice none 0 0,.int .i64 (iy n1 s1 n2 s2)])∧Below w.heap.size w w':=by
 have ha:SZ w ⟨g,0,none⟩ [(n1,s1),(n2,s2)]:=by
  intro j n s h;match j,h with
  | 0,h=>simp at h;obtain⟨rfl,rfl⟩:=h;exact⟨by simpa [Addr.add] using h0,by simpa [Addr.add] using h1⟩
  | 1,h=>simp at h;obtain⟨rfl,rfl⟩:=h;exact⟨by simpa [Addr.add] using h2,by simpa [Addr.add] using h3⟩
  | j+2,h=>simp at h
 unfold iy at *;split at hb
 ·rename_i hc
  rw[if_pos hc];exact X0 ⟨g,0,none⟩ _ 2 c rfl (by omega) w ha 0 n1 s1 rfl hc (fun j p h=>by omega)
 ·rename_i hc
  rw[if_neg hc];refine X0 ⟨g,0,none⟩ _ 2 c rfl (by omega) w ha 1 n2 s2 rfl hb (fun j p h hp=>?_);have:j=0:=by omega
  subst this;simp at hp;subst hp;exact qw.1 (Decidable.not_not.1 hc)
def ival (n:Bool) (s:ByteArray):Int:=bl n (nv s)
def oU (v:Int):Value := .agg #[.bool (decide (v<0)),.string (ey (v.natAbs:Int))]
def JZ (f:Int→Int→Int) (n1:Bool) (s1:ByteArray) (n2:Bool) (s2:ByteArray) (w:World) (e:Ending) (w':World):Prop :=
 (iy n1 s1 n2 s2≠0→e = .returned (.tuple #[.agg #[.bool false,.string ⟨#[]⟩],.int .i64 (iy n1 s1 n2 s2)])) ∧
 (iy n1 s1 n2 s2=0→e = .returned (.tuple #[oU (f (ival n1 s1) (ival n2 s2)),.int .i64 0]))∧Below w.heap.size w w'
theorem Fp {n:Bool} {r:List Int} {v:Int} (hl:aJ r) (h:bl n (lv r)=v):Value.agg #[.bool (decide (bl n (lv r)<0)),.string (ey (lv r))]=oU v:=by
 have:=(dG hl).1;unfold oU;rw[h];have e:lv r=(v.natAbs:Int):=by
  unfold bl at h;split at h <;> omega
 rw[e]
theorem Z3 {n:Bool} {r:List Int} {v:Int} (hl:aJ r) (h:bl n (lv r)=v):lv r=(v.natAbs:Int):=by
 have:=(dG hl).1;unfold bl at h;split at h <;> omega
theorem nD {s:ByteArray} {k:Nat} (h:s.size≤k):nv s<256^k:=by
 have:=(jw s).2;have h2:=rD h;omega
structure Fits (v:Int):Prop where mk::(out:(v.natAbs:Int)<B^4000)
theorem ag7 (n:Bool) (s:ByteArray):bl n (nv s)=ival n s:=rfl
theorem LY {r:List Int} {v:Int} {n:Bool} (hl:aJ r) (ht:Tr r) (hv:bl n (lv r)=v) (h:Fits v):r.length≤4000:=by
 have h:=h.out;apply gO ht hl;have:=(dG hl).1;have e:lv r=(v.natAbs:Int):=by
  unfold bl at hv;split at hv <;> omega
 omega
theorem Sw (k:Nat):B^k=256^(8*k):=by
 rw[show B=256^8 from by decide,← Int.pow_mul]
theorem Fq {n:Bool} {v:Int} (h:0≤v):((bl n v).natAbs:Int)=v:=by
 unfold bl;split <;> omega
theorem aeQ {n1 n2:Bool} {s1 s2:ByteArray} {K M:Nat} (h1:s1.size≤K) (h2:s2.size≤K) (hM:K+1≤8*M):((ival n1 s1+ival n2 s2).natAbs:Int)<B^M:=by
 rw[Sw];have a1:=(jw s1).1;have a2:=(jw s2).1;have b1:=nD h1;have b2:=nD h2;have e1:=Fq (n:=n1) a1;have e2:=Fq (n:=n2) a2;have h3:=rD hM;have h4:=Ys K;unfold ival at *;generalize (256:Int)^(8*M)=u at *;generalize (256:Int)^(K+1)=u at *;generalize (256:Int)^K=u at *;omega
theorem aeR {n1 n2:Bool} {s1 s2:ByteArray} {K M:Nat} (h1:s1.size≤K) (h2:s2.size≤K) (hM:K+K≤8*M):((ival n1 s1*ival n2 s2).natAbs:Int)<B^M:=by
 rw[Sw];have a1:=(jw s1).1;have a2:=(jw s2).1;have b1:=nD h1;have b2:=nD h2;have e1:=Fq (n:=n1) a1;have e2:=Fq (n:=n2) a2;have h3:=rD hM;rw[Int.pow_add]at h3
 have hp:=Yp K;unfold ival;rw[Int.natAbs_mul,Int.natCast_mul,e1,e2];generalize (256:Int)^(8*M)=u at *;generalize (256:Int)^K=z at *;have h5:nv s1*nv s2≤nv s1*z:=Int.mul_le_mul_of_nonneg_left (by omega) a1;have h6:nv s1*z<z*z:=Int.mul_lt_mul_of_pos_right b1 hp;omega
theorem ae9 {n1 n2:Bool} {s1 s2:ByteArray} (h1:s1.size≤15000) (h2:s2.size≤15000):Fits (ival n1 s1+ival n2 s2):=⟨aeQ h1 h2 (by omega)⟩
theorem ae_ {n1 n2:Bool} {s1 s2:ByteArray} (h1:s1.size≤15000) (h2:s2.size≤15000):Fits (ival n1 s1*ival n2 s2):=⟨aeR h1 h2 (by omega)⟩
theorem RL.heap {w w':World} {A:Option Addr} {l:List Int} (h:RL w A l) (he:w'.heap=w.heap):RL w' A l:=by
 refine⟨h.1,fun hn=>?_⟩;obtain⟨ad,e,hc⟩:=h.2 hn;refine⟨ad,e,fun j hj=>?_⟩;unfold World.cell?;rw[he];exact hc j hj
theorem fB {B C:Nat} {a b b' c:World} (h:Below B a b) (k:Below C b' c) (hB:B≤C) (e1:b'.os=b.os) (e2:b'.tape=b.tape) (e3:b'.output=b.output) (e4:b'.heap=b.heap):Below B a c :=
 ⟨k.os.trans (e1.trans h.os),k.tape.trans (e2.trans h.tape),k.output.trans (e3.trans h.output),Nat.le_trans h.size (by rw[← e4];exact k.size),fun i hi=>(k.block i (by omega)).trans ((congrArg (fun x:Array Obj=>x[i]?) e4).trans (h.block i hi))⟩
theorem Iz {w:World} {g i j:Nat} {u:Value} {v:Option Value} (h:i≠j) (hc:w.cell? ⟨g,j,none⟩=v):(w.setCell ⟨g,i,none⟩ u).cell? ⟨g,j,none⟩=v :=
 (World.cell?_setCell_other (w:=w) (a:=⟨g,i,none⟩) (b:=⟨g,j,none⟩) (v:=u) (by simp[h])).trans hc
theorem X5 (n:Bool) (s:ByteArray):bl (!n) (nv s) =-ival n s:=by cases n <;> simp[ival,bl]
theorem ae' {n1 n2:Bool} {s1 s2:ByteArray} (h1:s1.size≤15000) (h2:s2.size≤15000):Fits (ival n1 s1-ival n2 s2):=by
 have:=ae9 (n1:=n1) (n2:=!n2) h1 h2;rw[show ival (!n2) s2 =-ival n2 s2 from X5 n2 s2,← Int.sub_eq_add_neg]at this
 exact this
theorem alz (n1:Bool) (s1:ByteArray) (n2:Bool) (s2:ByteArray) (h1:s1.size≤15000) (h2:s2.size≤15000) (w:World) :
  Calls Tryz.prog 113 #[.agg #[.bool n1,.string s1],.agg #[.bool n2,.string s2]] w (JZ (·-·) n1 s1 n2 s2 w):=by
 obtain⟨w4,hw4⟩:∃ w4,w4=(((w.alloc (.cells #[.bool n1,.string s1] 38)).alloc (.cells #[.bool n2,.string s2] 38)).alloc (.cells #[.bool false,.string ⟨#[]⟩] 38)).alloc (.cells #[.bool n1,.string s1,.bool n2,.string s2] 38):=⟨_,rfl⟩
 have hb4:Below w.heap.size w w4:=by rw[hw4];exact((((Below.refl _ _).alloc (Nat.le_refl _) _).alloc (by simp;try omega) _).alloc (by simp;try omega) _).alloc (by simp;try omega) _
 have d0:w4.cell? ⟨w.heap.size+3,0,none⟩=some (.bool n1):=by rw[hw4];simp[go_sem]
 have d1:w4.cell? ⟨w.heap.size+3,1,none⟩=some (.string s1):=by rw[hw4];simp[go_sem]
 have d2:w4.cell? ⟨w.heap.size+3,2,none⟩=some (.bool n2):=by rw[hw4];simp[go_sem]
 have d3:w4.cell? ⟨w.heap.size+3,3,none⟩=some (.string s2):=by rw[hw4];simp[go_sem]
 have u0:w4.cell? ⟨w.heap.size,0,none⟩=some (.bool n1):=by rw[hw4];simp[go_sem]
 have u1:w4.cell? ⟨w.heap.size+1,0,none⟩=some (.bool n2):=by rw[hw4];simp[go_sem]
 have u2:w4.cell? ⟨w.heap.size+2,0,none⟩=some (.bool false):=by rw[hw4];simp[go_sem]
 have u3:w4.cell? ⟨w.heap.size+2,1,none⟩=some (.string ⟨#[]⟩):=by rw[hw4];simp[go_sem]
 have u4:w4.frozen? ⟨w.heap.size+2,0,none⟩=false:=by rw[hw4];simp[go_sem]
 have u5:w4.frozen? ⟨w.heap.size+2,1,none⟩=false:=by rw[hw4];simp[go_sem]
 have hsz:w4.heap.size=w.heap.size+4:=by rw[hw4];simp
 have hkk:∀ (w':World) (h:Below w4.heap.size w4 w'),w'.cell? ⟨w.heap.size,0,none⟩=some (.bool n1)∧w'.cell? ⟨w.heap.size+1,0,none⟩=some (.bool n2)∧w'.cell? ⟨w.heap.size+2,0,none⟩=some (.bool false)∧w'.cell? ⟨w.heap.size+2,1,none⟩=some (.string ⟨#[]⟩)∧w'.frozen? ⟨w.heap.size+2,0,none⟩=false∧w'.frozen? ⟨w.heap.size+2,1,none⟩=false :=
  fun w' h=>⟨(h.cell (by simp[hsz];try omega)).trans u0,(h.cell (by simp[hsz];try omega)).trans u1,(h.cell (by simp[hsz];try omega)).trans u2,(h.cell (by simp[hsz];try omega)).trans u3,(h.frozen (by simp[hsz];try omega)).trans u4,(h.frozen (by simp[hsz];try omega)).trans u5⟩
 have HW:=Lib.hid hw4;have HS:=Lib.hid hb4;have eR:=Lib.hid hsz;have HK:=Lib.hid hkk;unfold JZ;by_cases hb:iy n1 s1 n2 s2=0
 ·obtain⟨o1,o2⟩:=Cm.1 hb
  rw[hb];have HC:=Lib.hid (Mp n1 s1 n2 s2 _ 2 w4 d0 d1 d2 d3 o1 o2);have HV:=Lib.hid (ae' (n1:=n1) (n2:=n2) h1 h2);clear d0 d1 d2 d3 u0 u1 u2 u3 u4 u5 hsz hkk hb4 hw4 hb o1 o2 h1 h2;go_enter Tryz.func113,Tryz.ntmps113;go_wp2_with fail
  rw[← HW.out];refine(HC.out).mono ?_;rintro e w' ⟨g,c,g1,k1,r1,g2,k2,r2,rfl,hg,hc,N1,N2,hbr⟩;have c0:=N1.c0;have c1:=N1.c1;have c2:=N2.c0;have c3:=N2.c1;obtain⟨e0,e1,e2,e3,e4,e5⟩:=HK.out _ hbr;have hg2:g<w'.heap.size:=World.block_lt_of_cell? w' _ c0;have HR:=Lib.hid (HS.out.trans (hbr.mono (by rw[eR.out];omega)));have HL:=Lib.hid (show w.heap.size+2<w'.heap.size by have:=hbr.size;rw[eR.out]at this;omega);have x1:=N1.row.Of c2 (by simp) (.bool (!n2));have x2:=N2.row.Of c2 (by simp) (.bool (!n2));obtain⟨w6,oN⟩:∃ w6,w6=w'.setCell ⟨g,2,none⟩ (.bool (!n2)):=⟨_,rfl⟩
  rw[← oN]at x1 x2
  have hsc:=fun (w5:World) (h5:w5.heap=w6.heap)=>S6 n1 (!n2) (some ⟨g1,0,none⟩) (some ⟨g2,0,none⟩) k1 k2 k1 k2 r1 r2 N1.len N2.len N1.le N2.le (Nat.le_refl _) (Nat.le_refl _) w5 (x1.heap h5) (x2.heap h5) N1.bF N2.bF;rw[N1.val,N2.val,ag7,X5,← Int.sub_eq_add_neg]at hsc
  have HC:=Lib.hid hsc;have hne:¬ g=w.heap.size+1+1:=by have h1:=eR.out;omega
  have gT:¬ w.heap.size+2=g:=by omega
  have f0:=N2.f0;have H6:=Lib.hid oN;have b0:w6.cell? ⟨g,0,none⟩=some (.bool n1):=by rw[oN];exact Iz (by omega) c0
  have b1:w6.cell? ⟨g,1,none⟩=some (.slice (some ⟨g1,0,none⟩) k1 k1):=by rw[oN];exact Iz (by omega) c1
  have b2:w6.cell? ⟨g,2,none⟩=some (.bool (!n2)):=by rw[oN];exact World.cell?_setCell_same' _ _ _ (by rw[c2];rfl)
  have b3:w6.cell? ⟨g,3,none⟩=some (.slice (some ⟨g2,0,none⟩) k2 k2):=by rw[oN];exact Iz (by omega) c3
  have a2:w6.cell? ⟨w.heap.size+2,0,none⟩=some (.bool false):=by rw[oN];exact(cell_far _ _ _ _ _ _ gT).trans e2
  have a3:w6.cell? ⟨w.heap.size+2,1,none⟩=some (.string ⟨#[]⟩):=by rw[oN];exact(cell_far _ _ _ _ _ _ gT).trans e3
  have a4:w6.frozen? ⟨w.heap.size+2,0,none⟩=false:=by rw[oN];simp only[World.frozen?_setCell];exact e4
  have a5:w6.frozen? ⟨w.heap.size+2,1,none⟩=false:=by rw[oN];simp only[World.frozen?_setCell];exact e5
  have KO:Below w.heap.size w w6:=by rw[oN];exact HR.out.setCell (by have:=eR.out;simp;omega) _
  have KP:w.heap.size+2<w6.heap.size:=by rw[oN];simpa using HL.out
  have Ei:g<w6.heap.size:=by rw[oN];simpa using hg2
  clear hsc hg hbr N1 N2 oN x1 x2 gT HR HL hg2;have HR:=Lib.hid KO;have HL:=Lib.hid KP;have hg2:=Ei;clear KO KP Ei;go_wp2
  rw[← H6.out];clear c0 c1 c2 c3 e2 e3 e4 e5 f0;have c0:=b0;have c1:=b1;have c2:=b2;have c3:=b3;have e2:=a2;have e3:=a3;have e4:=a4;have e5:=a5;clear b0 b1 b2 b3 a2 a3 a4 a5;go_region_held3 (fun w'=>w'.cell? ⟨g,0,none⟩=some (.bool n1)∧w'.cell? ⟨g,1,none⟩=some (.slice (some ⟨g1,0,none⟩) k1 k1)∧w'.cell? ⟨g,2,none⟩=some (.bool (!n2))∧w'.cell? ⟨g,3,none⟩=some (.slice (some ⟨g2,0,none⟩) k2 k2)) (first|go_keep|exact⟨y0,y1,y2,y3⟩|exact⟨(cell_far _ _ _ _ _ _ hne).trans ((cell_far _ _ _ _ _ _ hne).trans y0),(cell_far _ _ _ _ _ _ hne).trans ((cell_far _ _ _ _ _ _ hne).trans y1),(cell_far _ _ _ _ _ _ hne).trans ((cell_far _ _ _ _ _ _ hne).trans y2),(cell_far _ _ _ _ _ _ hne).trans ((cell_far _ _ _ _ _ _ hne).trans y3)⟩|exact⟨z0,z1,z2,z3⟩) (first|(go_at_call 124;refine(HC.out _ (by rfl)).mono ?_;rintro e w2 ⟨n,x,r,rfl,hr,hlr,dM,gw,hbr⟩;obtain⟨A,cc,rfl,hrc,hrl⟩:=hr;have z0:=(hbr.cell (p:=⟨g,0,none⟩) hg2).trans c0;have z1:=(hbr.cell (p:=⟨g,1,none⟩) hg2).trans c1;have z2:=(hbr.cell (p:=⟨g,2,none⟩) hg2).trans c2;have z3:=(hbr.cell (p:=⟨g,3,none⟩) hg2).trans c3;have p0:=(hbr.cell (p:=⟨w.heap.size+2,0,none⟩) HL.out).trans e2;have p1:=(hbr.cell (p:=⟨w.heap.size+2,1,none⟩) HL.out).trans e3;have p2:=(hbr.frozen (p:=⟨w.heap.size+2,0,none⟩) HL.out).trans e4;have p3:=(hbr.frozen (p:=⟨w.heap.size+2,1,none⟩) HL.out).trans e5;have dD:=fB HR.out hbr HR.out.size rfl rfl rfl rfl;have hg3:=Nat.lt_of_lt_of_le hg2 hbr.size;have iE:=Nat.lt_of_lt_of_le HL.out hbr.size;clear hbr)|(go_at_call 119;refine(xR _ _ _ _ r rfl (LY hlr dM gw HV.out) hrc _ (by exact hrl) hlr).mono ?_;rintro e w3 ⟨rfl,bY⟩;have y0:=(bY.cell (p:=⟨g,0,none⟩) hg3).trans z0;have y1:=(bY.cell (p:=⟨g,1,none⟩) hg3).trans z1;have y2:=(bY.cell (p:=⟨g,2,none⟩) hg3).trans z2;have y3:=(bY.cell (p:=⟨g,3,none⟩) hg3).trans z3;have q0:=(bY.cell (p:=⟨w.heap.size+2,0,none⟩) iE).trans p0;have q1:=(bY.cell (p:=⟨w.heap.size+2,1,none⟩) iE).trans p1;have q2:=(bY.frozen (p:=⟨w.heap.size+2,0,none⟩) iE).trans p2;have q3:=(bY.frozen (p:=⟨w.heap.size+2,1,none⟩) iE).trans p3;have dy:=fB dD bY dD.size rfl rfl rfl rfl;clear bY))
  go_wp2
  refine bodyPost_ret (by simp[results,Tryz.results113,go_sem,q0,q1];try rfl) rfl ?_;exact⟨fun h=>absurd rfl h,fun _=>by rw[Z3 hlr gw];rfl,(dy.setCell (by simp;try omega) _).setCell (by simp;try omega) _⟩
 ·have HC:=Lib.hid (LX n1 s1 n2 s2 _ 2 w4 d0 d1 d2 d3 hb)
  have hz1:(iy n1 s1 n2 s2==0)=false:=beq_eq_false_iff_ne.mpr hb;have hz2:(iy n1 s1 n2 s2 != 0)=true:=bne_iff_ne.mpr hb;have HN:=Lib.hid hb;clear d0 d1 d2 d3 u0 u1 u2 u3 u4 u5 hsz hkk hb4 hw4 hb h1 h2;go_enter Tryz.func113,Tryz.ntmps113;go_wp2_with fail
  rw[← HW.out];refine(HC.out).mono ?_;rintro e w' ⟨rfl,hbr⟩;obtain⟨e0,e1,e2,e3,e4,e5⟩:=HK.out _ hbr;have HR:=Lib.hid (HS.out.trans (hbr.mono (by rw[eR.out];omega)));clear hbr;go_wp2
  refine bodyPost_ret (by simp[results,Tryz.results113,go_sem,e0,e1,e2,e3,e4,e5];try rfl) rfl ?_;exact⟨fun _=>rfl,fun h=>absurd h HN.out,(HR.out.setCell (by simp;try omega) _).setCell (by simp;try omega) _⟩
theorem ag8 (n1 n2:Bool) (x y:Int):bl (n1 != n2) (x*y)=bl n1 x*bl n2 y:=by
 cases n1 <;> cases n2 <;> simp[bl,Int.neg_mul,Int.mul_neg]
theorem Sy {s:ByteArray} (h:Canon s) (h0:0<s.size):0<nv s:=by
 have h1:=(jw s).1;apply Decidable.byContradiction;intro hn;have hz:nv s=0:=by omega
 have:s=ey 0:=XA h (P_ 0 (by omega)) (by rw[hz,Rk (by omega)]);have h2:=wC 0;rw[← this,wH]at h2
 omega
theorem alA (n1:Bool) (s1:ByteArray) (n2:Bool) (s2:ByteArray) (h1:s1.size≤15000) (h2:s2.size≤15000) (w:World) :
  Calls Tryz.prog 123 #[.agg #[.bool n1,.string s1],.agg #[.bool n2,.string s2]] w (JZ (·*·) n1 s1 n2 s2 w):=by
 obtain⟨w4,hw4⟩:∃ w4,w4=(((w.alloc (.cells #[.bool n1,.string s1] 38)).alloc (.cells #[.bool n2,.string s2] 38)).alloc (.cells #[.bool false,.string ⟨#[]⟩] 38)).alloc (.cells #[.bool n1,.string s1,.bool n2,.string s2] 38):=⟨_,rfl⟩
 have hb4:Below w.heap.size w w4:=by rw[hw4];exact((((Below.refl _ _).alloc (Nat.le_refl _) _).alloc (by simp;try omega) _).alloc (by simp;try omega) _).alloc (by simp;try omega) _
 have d0:w4.cell? ⟨w.heap.size+3,0,none⟩=some (.bool n1):=by rw[hw4];simp[go_sem]
 have d1:w4.cell? ⟨w.heap.size+3,1,none⟩=some (.string s1):=by rw[hw4];simp[go_sem]
 have d2:w4.cell? ⟨w.heap.size+3,2,none⟩=some (.bool n2):=by rw[hw4];simp[go_sem]
 have d3:w4.cell? ⟨w.heap.size+3,3,none⟩=some (.string s2):=by rw[hw4];simp[go_sem]
 have u0:w4.cell? ⟨w.heap.size,0,none⟩=some (.bool n1):=by rw[hw4];simp[go_sem]
 have u1:w4.cell? ⟨w.heap.size+1,0,none⟩=some (.bool n2):=by rw[hw4];simp[go_sem]
 have u2:w4.cell? ⟨w.heap.size+2,0,none⟩=some (.bool false):=by rw[hw4];simp[go_sem]
 have u3:w4.cell? ⟨w.heap.size+2,1,none⟩=some (.string ⟨#[]⟩):=by rw[hw4];simp[go_sem]
 have u4:w4.frozen? ⟨w.heap.size+2,0,none⟩=false:=by rw[hw4];simp[go_sem]
 have u5:w4.frozen? ⟨w.heap.size+2,1,none⟩=false:=by rw[hw4];simp[go_sem]
 have hsz:w4.heap.size=w.heap.size+4:=by rw[hw4];simp
 have hkk:∀ (w':World) (h:Below w4.heap.size w4 w'),w'.cell? ⟨w.heap.size,0,none⟩=some (.bool n1)∧w'.cell? ⟨w.heap.size+1,0,none⟩=some (.bool n2)∧w'.cell? ⟨w.heap.size+2,0,none⟩=some (.bool false)∧w'.cell? ⟨w.heap.size+2,1,none⟩=some (.string ⟨#[]⟩)∧w'.frozen? ⟨w.heap.size+2,0,none⟩=false∧w'.frozen? ⟨w.heap.size+2,1,none⟩=false :=
  fun w' h=>⟨(h.cell (by simp[hsz];try omega)).trans u0,(h.cell (by simp[hsz];try omega)).trans u1,(h.cell (by simp[hsz];try omega)).trans u2,(h.cell (by simp[hsz];try omega)).trans u3,(h.frozen (by simp[hsz];try omega)).trans u4,(h.frozen (by simp[hsz];try omega)).trans u5⟩
 have HW:=Lib.hid hw4;have HS:=Lib.hid hb4;have eR:=Lib.hid hsz;have HK:=Lib.hid hkk;unfold JZ;by_cases hb:iy n1 s1 n2 s2=0
 ·obtain⟨o1,o2⟩:=Cm.1 hb
  rw[hb];have HC:=Lib.hid (Mp n1 s1 n2 s2 _ 2 w4 d0 d1 d2 d3 o1 o2);have HV:=Lib.hid (ae_ (n1:=n1) (n2:=n2) h1 h2);clear d0 d1 d2 d3 u0 u1 u2 u3 u4 u5 hsz hkk hb4 hw4 hb o1 o2 h1 h2;go_enter Tryz.func123,Tryz.ntmps123;go_wp2_with fail
  rw[← HW.out];refine(HC.out).mono ?_;rintro e w' ⟨g,c,g1,k1,r1,g2,k2,r2,rfl,hg,hc,N1,N2,hbr⟩;have c0:=N1.c0;have c1:=N1.c1;have c2:=N2.c0;have c3:=N2.c1;obtain⟨e0,e1,e2,e3,e4,e5⟩:=HK.out _ hbr;have hg2:g<w'.heap.size:=World.block_lt_of_cell? w' _ c0;have HR:=Lib.hid (HS.out.trans (hbr.mono (by rw[eR.out];omega)));have HL:=Lib.hid (show w.heap.size+2<w'.heap.size by have:=hbr.size;rw[eR.out]at this;omega);have hsc:=fun (w5:World) (h5:w5.heap=w'.heap)=>als (some ⟨g1,0,none⟩) (some ⟨g2,0,none⟩) k1 k2 k1 k2 r1 r2 N1.len N2.len N1.le N2.le w5 (N1.row.heap h5) (N2.row.heap h5) N1.bF N2.bF;rw[N1.val,N2.val]at hsc
  have HC:=Lib.hid hsc;clear hsc hg hbr N1 N2;go_wp2
  go_region_held3 (fun w'=>w'.cell? ⟨g,1,none⟩=some (.slice (some ⟨g1,0,none⟩) k1 k1)∧w'.cell? ⟨g,3,none⟩=some (.slice (some ⟨g2,0,none⟩) k2 k2)) (first|go_keep|exact⟨z1,z3⟩) (first|(go_at_call 138;refine(HC.out _ (by rfl)).mono ?_;rintro e w2 ⟨x,r,rfl,hr,hlr,dM,gw,hbr⟩;obtain⟨A,cc,rfl,hrc,hrl⟩:=hr;have z1:=(hbr.cell (p:=⟨g,1,none⟩) hg2).trans c1;have z3:=(hbr.cell (p:=⟨g,3,none⟩) hg2).trans c3;have p0:=(hbr.cell (p:=⟨w.heap.size,0,none⟩) (Nat.lt_of_le_of_lt (Nat.le_add_right _ 2) HL.out)).trans e0;have p1:=(hbr.cell (p:=⟨w.heap.size+1,0,none⟩) (Nat.lt_of_le_of_lt (Nat.le_add_right _ 1) HL.out)).trans e1;have p2:=(hbr.cell (p:=⟨w.heap.size+2,0,none⟩) HL.out).trans e2;have p3:=(hbr.cell (p:=⟨w.heap.size+2,1,none⟩) HL.out).trans e3;have p4:=(hbr.frozen (p:=⟨w.heap.size+2,0,none⟩) HL.out).trans e4;have p5:=(hbr.frozen (p:=⟨w.heap.size+2,1,none⟩) HL.out).trans e5;have dD:=fB HR.out hbr HR.out.size rfl rfl rfl rfl;have iE:=Nat.lt_of_lt_of_le HL.out hbr.size;clear hbr))
  have VB:bl (n1 != n2) (lv r)=ival n1 s1*ival n2 s2:=by rw[gw];exact ag8 _ _ _ _
  have HT:=Lib.hid (xR (n1 != n2) A r.length cc r rfl (LY hlr dM VB HV.out) hrc _ hrl hlr);have VC:=Lib.hid (And.intro hlr VB);clear gw VB hlr dM hrl z1 z3 c0 c1 c2 c3 e0 e1 e2 e3 e4 e5;go_wp2_with fail
  refine(HT.out).mono ?_;rintro e w3 ⟨rfl,bY⟩;have q0:=(bY.cell (p:=⟨w.heap.size+2,0,none⟩) iE).trans p2;have q1:=(bY.cell (p:=⟨w.heap.size+2,1,none⟩) iE).trans p3;have q2:=(bY.frozen (p:=⟨w.heap.size+2,0,none⟩) iE).trans p4;have q3:=(bY.frozen (p:=⟨w.heap.size+2,1,none⟩) iE).trans p5;have dy:=Lib.hid (fB dD bY dD.size rfl rfl rfl rfl);clear bY dD;go_wp2
  refine bodyPost_ret (by simp[results,Tryz.results123,go_sem,q0,q1];try rfl) rfl ?_;exact⟨fun h=>absurd rfl h,fun _=>by rw[VC.out.2,Z3 VC.out.1 VC.out.2];rfl,(dy.out.setCell (by simp;try omega) _).setCell (by simp;try omega) _⟩
 ·have HC:=Lib.hid (LX n1 s1 n2 s2 _ 2 w4 d0 d1 d2 d3 hb)
  have hz1:(iy n1 s1 n2 s2==0)=false:=beq_eq_false_iff_ne.mpr hb;have hz2:(iy n1 s1 n2 s2 != 0)=true:=bne_iff_ne.mpr hb;have HN:=Lib.hid hb;clear d0 d1 d2 d3 u0 u1 u2 u3 u4 u5 hsz hkk hb4 hw4 hb h1 h2;go_enter Tryz.func123,Tryz.ntmps123;go_wp2_with fail
  rw[← HW.out];refine(HC.out).mono ?_;rintro e w' ⟨rfl,hbr⟩;obtain⟨e0,e1,e2,e3,e4,e5⟩:=HK.out _ hbr;have HR:=Lib.hid (HS.out.trans (hbr.mono (by rw[eR.out];omega)));clear hbr;go_wp2
  refine bodyPost_ret (by simp[results,Tryz.results123,go_sem,e0,e1,e2,e3,e4,e5];try rfl) rfl ?_;exact⟨fun _=>rfl,fun h=>absurd h HN.out,(HR.out.setCell (by simp;try omega) _).setCell (by simp;try omega) _⟩
end Go.Proofs.YtfcjnhkkfmgmpaaGreat
