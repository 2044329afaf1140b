import Derived.Test.YtcmepkhjggpmeaaGreatZuG41
import Derived.Test.YtcmepkhjggpmeaaGreatZuG28
set_option linter.all false
set_option maxRecDepth 100000
set_option maxHeartbeats 8000000
namespace Go.Proofs.YtcmepkhjggpmeaaGreat
open Go.RowKit aP Go.Proofs.aF.R Go.Proofs.aF.Z Go.Proofs.aD.aY
theorem alk (ss:SS) (a b:Int) (j:Nat):nA ss a b j=true↔((bG ss j).f0=a/\(bG ss j).f1=b)\/((bG ss j).f0=b/\(bG ss j).f1=a):=by
 unfold nA;rw[Bool.and_eq_true,decide_eq_true_iff,decide_eq_true_iff];omega
theorem alm (ss:SS) (a b:Int):∀ n i K,ss.length=i+n->2*n+1<=K->i+n<=100000->(∀ j,j<i->nA ss a b j=false)->i_.l0 K ss a b (i:Int)=some (oI (nT (nA ss a b) ss.length)):=by
 intro n;induction n with
 | zero =>
  intro i K hl hK hb hf;obtain⟨k,rfl⟩:∃ k,K=k+1:=⟨K-1,by omega⟩
  rw[i_.l0,if_neg qo,Mi.2 (fun j hj=>hf j qo)];rfl
 | succ n ih =>
  intro i K hl hK hb hf;obtain⟨k,rfl⟩:∃ k,K=k+1+1:=⟨K-2,by omega⟩
  have hgo:∀ c,nA ss a b i=c->i_.j1 (k+1) ss a b (i:Int) c=some (oI (nT (nA ss a b) ss.length)):=by
   intro c hc;rw[i_.j1];cases c with
   | true=>rw[if_pos rfl,ZO hc hf _ qo];rfl
   | false =>
    rw[if_neg qd,kB qo];exact ih (i+1) k qo qo qo (fun j hj=>by
     rcases Nat.lt_succ_iff_lt_or_eq.1 hj with h|h
     ·exact hf j h
     ·subst h;exact hc)
  have hs:=alk ss a b i;rw[i_.l0,if_pos qo,if_pos qo];show(if (bG ss i).f0=a then (if (bG ss i).f1=b then i_.j1 (k+1) ss a b i true else (if (bG ss i).f0=b then i_.j1 (k+1) ss a b i ((bG ss i).f1==a) else i_.j1 (k+1) ss a b i false)) else (if (bG ss i).f0=b then i_.j1 (k+1) ss a b i ((bG ss i).f1==a) else i_.j1 (k+1) ss a b i false))=_;have hq:∀ c:Bool,(c=true↔((bG ss i).f0=a/\(bG ss i).f1=b)\/((bG ss i).f0=b/\(bG ss i).f1=a))->i_.j1 (k+1) ss a b (i:Int) c=some (oI (nT (nA ss a b) ss.length)):=by
   intro c hc;refine hgo c ?_;have:=hs.trans hc.symm;cases c <;> cases h:nA ss a b i <;> simp_all
  by_cases e1:(bG ss i).f0=a
  ·rw[if_pos e1]
   by_cases e2:(bG ss i).f1=b
   ·rw[if_pos e2];exact hq _ (by simp[e1,e2])
   ·rw[if_neg e2]
    by_cases e3:(bG ss i).f0=b
    ·rw[if_pos e3];exact hq _ (by simp[e2,e3])
    ·rw[if_neg e3];exact hq _ (by simp[e2,e3])
  ·rw[if_neg e1]
   by_cases e3:(bG ss i).f0=b
   ·rw[if_pos e3];refine hq _ ?_;rw[beq_iff_eq];exact⟨fun h => .inr ⟨e3,h⟩,fun h=>h.elim (fun h=>absurd h.1 e1) (fun h=>h.2)⟩
   ·rw[if_neg e3];exact hq _ (by simp[e1,e3])
def yf (ss:SS) (a b:Int):Int:=oI (nT (nA ss a b) ss.length)
theorem aln (ss:SS) (K:Nat) (hK:2*ss.length+1<=K) (hb:ss.length<=100000):SgO K ss (yf ss):=fun a b=>alm ss a b ss.length 0 K qo hK qo (fun j hj=>absurd hj (Nat.not_lt_zero _))
theorem alo {p:Nat->Bool}:∀ {m j:Nat},nT p m=some j->∀ i,i<j->p i=false:=by
 intro m;induction m with
 | zero=>intro j h;cases h
 | succ m ih =>
  intro j h i hi;unfold nT at h;cases hf:nT p m with
  | some x =>
   rw[hf]at h
   obtain rfl:=Option.some.inj h;exact ih hf i hi
  | none =>
   rw[hf]at h
   cases hp:p m with
   | true =>
    simp only[hp,if_pos]at h;obtain rfl:=Option.some.inj h;exact Mi.1 hf i hi
   | false=>simp[hp]at h
theorem amq {ps:PS} {zs:List Int} {n1:Nat} {ss:SS} {bn:Nat->Nat->Nat->Int} (h:uf ps zs n1 ss 0 bn (yf ss)):n9 ps.length zs n1 ss bn:=by
 refine⟨h.l0,h.l1,h.l2,h.c,h.d,fun i hi=>?_⟩;have hb:=h.s i hi;unfold Gp at hb;have h1:¬ (fT (bK zs (bG ss i).f0 (bG ss i).f1 (3*n1))<0/\fT (bK zs (bG ss i).f1 (bG ss i).f0 (3*n1))<0):=fun hh=>hb (.inl hh);have h2:yf ss (bG ss i).f0 (bG ss i).f1=i:=by
  rcases Int.decEq (yf ss (bG ss i).f0 (bG ss i).f1) i with h|h
  ·exact absurd (.inr h) hb
  ·exact h
 constructor
 ·cases e1:bK zs (bG ss i).f0 (bG ss i).f1 (3*n1) with
  | some j=>exact .inl rfl
  | none =>
   cases e2:bK zs (bG ss i).f1 (bG ss i).f0 (3*n1) with
   | some j=>exact .inr rfl
   | none=>rw[e1,e2]at h1;exact absurd ⟨by decide,by decide⟩ h1
 ·intro j hj he
  unfold yf at h2;cases hf:nT (nA ss (bG ss i).f0 (bG ss i).f1) ss.length with
  | none=>rw[hf]at h2;simp only[oI]at h2;omega
  | some q =>
   rw[hf]at h2
   have hq:q=i:=by simp only[oI]at h2;omega
   subst hq;have:=alo hf j hj;unfold nA at this;rw[decide_eq_true he.1,decide_eq_true he.2]at this
   exact absurd this qd
abbrev MO:=Int × PS × List Int × Nat × SS
def uV (r:Int):MO:=(r,[],[],0,[])
def Th (zs:List Int) (t:Nat) (a b c:Int):List Int:=((zs.set (t*3) a).set (t*3+1) b).set (t*3+2) c
def uI (zs:List Int) (n1:Nat) (ss:SS) (bn:Nat->Nat->Nat->Int) (a b c:Int):Option Nat :=
 match bK zs b a (3*n1) with
 | none=>none
 | some j=>if 0<=yf ss a b\/(bK zs c (zs.getD (3*(j / 3)+px (j%3)) 0) (3*n1)).isSome=true\/(bK zs (zs.getD (3*(j / 3)+px (j%3)) 0) c (3*n1)).isSome=true\/¬ 0<bn (zs.getD (3*(j / 3)+px (j%3)) 0).toNat b.toNat c.toNat\/¬ 0<bn (zs.getD (3*(j / 3)+px (j%3)) 0).toNat c.toNat a.toNat then none else some j
def wk (zs:List Int) (t j:Nat) (a b c d:Int):List Int:=Th (Th zs t d b c) (j / 3) d c a
def tK (ps:PS) (zs:List Int) (n1:Nat) (ss:SS) (bn:Nat->Nat->Nat->Int) (t k:Int):MO :=
 if sq n1 t k=true then
  (match uI zs n1 ss bn (zs.getD (3*t.toNat+k.toNat) 0) (zs.getD (3*t.toNat+nx k.toNat) 0) (zs.getD (3*t.toNat+px k.toNat) 0) with
  | none=>uV 7
  | some j=>(0,ps,wk zs t.toNat j (zs.getD (3*t.toNat+k.toNat) 0) (zs.getD (3*t.toNat+nx k.toNat) 0) (zs.getD (3*t.toNat+px k.toNat) 0) (zs.getD (3*(j / 3)+px (j%3)) 0),n1,ss))
 else uV 1
theorem alp {ps:PS} {zs:List Int} {n1:Nat} {ss:SS} {bn:Nat->Nat->Nat->Int} {t k:Int} {T j jt jk na nb nc nd:Nat} {sg:Int} {o1 o2 bb:Bool}
  (HR:tK ps zs n1 ss bn t k=match uI zs n1 ss bn na nb nc with
   | none=>uV 7
   | some j=>(0,ps,wk zs T j na nb nc (zs.getD (3*(j / 3)+px (j%3)) 0),n1,ss))
  (Iq:bK zs nb na (3*n1)=some j) (AK:j / 3=jt) (Ir:j%3=jk) (LI:zs.getD (3*jt+px jk) 0=nd) (HS:yf ss na nb=sg) (hq:¬ 0<=sg)
  (O1:(bK zs (nc:Int) (nd:Int) (3*n1)).isSome=o1) (O2:(bK zs (nd:Int) (nc:Int) (3*n1)).isSome=o2) (CQ:(o1||(o2||(!decide (0<bn nd nb nc)||!decide (0<bn nd nc na))))=bb) :
  tK ps zs n1 ss bn t k=if bb=true then uV 7 else (0,ps,wk zs T j na nb nc nd,n1,ss):=by
 have e:uI zs n1 ss bn na nb nc=if bb=true then none else some j:=by
  unfold uI;rw[Iq];simp only[AK,Ir,LI,HS,O1,O2,Int.toNat_natCast];rw[<- CQ];by_cases c3:0<bn nd nb nc <;> by_cases c4:0<bn nd nc na <;> cases o1 <;> cases o2 <;> simp[hq,c3,c4]
 rw[HR,e];cases bb with
 | true=>rfl
 | false =>
  show(0,ps,wk zs T j na nb nc (zs.getD (3*(j / 3)+px (j%3)) 0),n1,ss)=_;rw[AK,Ir,LI];rfl
def DT (w:World) (o:MO) (e:Ending) (w':World):Prop:=∃ v0 v1 v2,e = .returned (.tuple #[.agg #[v0,v1,v2],.int .i64 o.1])/\OM w' w.heap.size v0 v1 v2 o.2.1 o.2.2.1 o.2.2.2.1 o.2.2.2.2/\Below w.heap.size w w'
theorem DT.bad (w:World) (r:Int) (w':World) (hb:Below w.heap.size w w'):DT w (uV r) (.returned (.tuple #[.agg rI,.int .i64 r])) w':=⟨_,_,_,rfl,OM.nil _ _,hb⟩
structure Stop (p:Prop):Prop where
 out:p
theorem Gq {P:Program} {R:Ending->World->Prop} {fn:Func} {p u:Tmp} {ty:TypeId} {a:Act} {w:World} {g:Nat} {t:TypeId} {cs:Array Value} {fr:Nat × Nat} {d:TypeDesc} {v:Value} (h:fn.results=#[.cell p ty,.tmp u])
  (hp:a.tmps.getD p undef = .pointer (some ⟨g,0,none⟩)) (hv:a.tmps.getD u undef=v) (hg:w.heap[g]?=some (.cells cs t fr)) (hu:P.underlying ty=some d) (hd:(match d with | .struct _ | .array _ _=>true|_=>false)=true) (hi:(P.info? ty).map (·.size)=some cs.size)
  (hdf:a.defers=[]) (hR:R (.returned (.tuple #[.agg cs,v])) w):bodyPost P fn R .ret a w :=
 bodyPost_ret (hv ▸ pI h a.tmps w g t cs fr d hp hg hu hd hi) hdf hR
theorem ret3 {g r:Nat} {w:World} {x0 x1 x2:Value} {W:World} (hb:Below g w W) (hr:aO (W.heap[r]?=some (.cells #[x0,x1,x2] 26 (0,0)))) (h1:g<r) (a b c:Value) :
  (((W.setCell ⟨r,0,none⟩ a).setCell ⟨r,1,none⟩ b).setCell ⟨r,2,none⟩ c).heap[r]?=some (.cells #[a,b,c] 26 (0,0))/\Below g w (((W.setCell ⟨r,0,none⟩ a).setCell ⟨r,1,none⟩ b).setCell ⟨r,2,none⟩ c) :=
 ⟨nG (nG (nG hr.out 0 a) 1 b) 2 c,((hb.setCell (p:=⟨r,0,none⟩) (Nat.le_of_lt h1) a).setCell (p:=⟨r,1,none⟩) (Nat.le_of_lt h1) b).setCell (p:=⟨r,2,none⟩) (Nat.le_of_lt h1) c⟩
structure FI (g kb B:Nat) (w:World) (A0 A1 A2:Option Addr) (n0 c0 n1 c1 n2 c2:Nat) (zs:List Int) (W:World):Prop where
 box:MB g w A0 A1 A2 n0 c0 n1 c1 n2 c2 W
 br:aO (W.heap[g+1]?=some (.cells rI 26 (0,0)))
 m:SMap W B zs (3*n1)
 k1:W.cell? ⟨kb,1,none⟩=some (.slice A1 n1 c1)
 k3:W.cell? ⟨kb,3,none⟩=some (.map (some B))
theorem FI.step {g kb B:Nat} {w:World} {A0 A1 A2:Option Addr} {n0 c0 n1 c1 n2 c2:Nat} {zs:List Int} {W W':World} (h:FI g kb B w A0 A1 A2 n0 c0 n1 c1 n2 c2 zs W) (hb:Below W.heap.size W W'):FI g kb B w A0 A1 A2 n0 c0 n1 c1 n2 c2 zs W' :=
 ⟨h.box.step hb,⟨gP h.br.out hb⟩,h.m.below hb h.m.lt,(hb.cell (ql h.k1)).trans h.k1,(hb.cell (ql h.k3)).trans h.k3⟩
theorem ahN {W:World} {b g1 n cap sz:Nat} {e:TypeId} {cs:List Value} (h:W.ownsRow b e sz (.slice (some ⟨g1,0,none⟩) n cap) n cs) {i:Nat} (hi:i<n*sz) (u:Value):(W.setCell ⟨g1,i,none⟩ u).ownsRow b e sz (.slice (some ⟨g1,0,none⟩) n cap) n (cs.set i u):=by
 refine⟨by rw[List.length_set];exact h.1,?_⟩;rcases h.2 with ⟨h1,-⟩|⟨g,cap',cur,he,hb,hh,h1,h2,h3,h4⟩
 ·cases h1
 ·injection he with e1 e2 e3
  injection e1 with e1
  injection e1 with e1 _ _
  subst e1 e3;refine .inr ⟨g1,cap,cur.setIfInBounds i u,rfl,hb,nG hh i u,h1,h2,by rw[Array.size_setIfInBounds];exact h3,?_⟩;rw[Array.toList_setIfInBounds,List.take_set,h4]
structure TI (g o b:Nat) (w:World) (v0 v2:Value) (g1 k1:Nat) (ps:PS) (zs:List Int) (n1:Nat) (ss:SS) (W:World):Prop where
 om:OM W b v0 (.slice (some ⟨g1,0,none⟩) n1 k1) v2 ps zs n1 ss
 br:aO (W.heap[g+1]?=some (.cells rI 26 (0,0)))
 bo:aO (W.heap[o]?=some (.cells #[v0,.slice (some ⟨g1,0,none⟩) n1 k1,v2] 26 (0,0)))
 below:Below g w W
 hb:g<=b
theorem TI.g1 {g o b:Nat} {w:World} {v0 v2:Value} {g1 k1:Nat} {ps:PS} {zs:List Int} {n1:Nat} {ss:SS} {W:World} (h:TI g o b w v0 v2 g1 k1 ps zs n1 ss W):b<=g1/\∃ c,W.heap[g1]?=some (.cells c 69 (0,0))/\n1*3<=c.size:=by
 rcases h.om.t.2 with ⟨h1,-⟩|⟨g,cap',cur,he,hb,hh,h1,h2,h3,h4⟩
 ·cases h1
 ·injection he with e1 e2 e3
  injection e1 with e1
  injection e1 with e1 _ _
  subst e1 e3;exact⟨hb,cur,hh,by rw[h3];exact Nat.mul_le_mul_right _ h1⟩
theorem OM.blk {W:World} {b:Nat} {v0 v1 v2:Value} {ps:PS} {zs:List Int} {n1:Nat} {ss:SS} (h:OM W b v0 v1 v2 ps zs n1 ss) (h0:0<n1):∃ g1 k1,v1 = .slice (some ⟨g1,0,none⟩) n1 k1:=by
 rcases h.t.2 with ⟨-,h1⟩|⟨g,cap',cur,he,-⟩
 ·omega
 ·exact⟨g,cap',he⟩
theorem OM.st3 {W:World} {b b':Nat} {v0 v1 v2:Value} {ps:PS} {zs:List Int} {n1:Nat} {ss:SS} (h:OM W b v0 v1 v2 ps zs n1 ss) {r:Nat} (hr:r<b) (hb:b'<=b) (x y z:Value):OM (((W.setCell ⟨r,0,none⟩ x).setCell ⟨r,1,none⟩ y).setCell ⟨r,2,none⟩ z) b' v0 v1 v2 ps zs n1 ss:=by
 obtain⟨⟨cs0,fZ,AB⟩,ht,⟨s8,hr2,AD⟩⟩:=h;exact⟨⟨cs0,fZ.nQ (fun _ _ hp=>hp),xe (Gb AB hr x y z) hb⟩,xe (Gb ht hr x y z) hb,⟨s8,hr2.nQ (fun _ _ hp=>hp),xe (Gb AD hr x y z) hb⟩⟩
theorem Ti {W:World} {p q:Nat} {c d:Array Value} {s t:TypeId} {f f':Nat × Nat} (h:W.heap[p]?=some (.cells c s f)) (h':W.heap[q]?=some (.cells d t f')) (hn:s≠t):p≠q:=by
 rintro rfl;rw[h]at h'
 injection h' with h'
 injection h' with _ h'
 exact hn h'
theorem TI.Vw {g o b:Nat} {w:World} {v0 v2:Value} {g1 k1:Nat} {ps:PS} {zs:List Int} {n1:Nat} {ss:SS} {W:World} (h:TI g o b w v0 v2 g1 k1 ps zs n1 ss W) {i:Nat} (hi:i<n1*3) (x:Int):TI g o b w v0 v2 g1 k1 ps (zs.set i x) n1 ss (W.setCell ⟨g1,i,none⟩ (.int .i64 x)):=by
 obtain⟨hb,c,hc,-⟩:=h.g1;have hf:∀ {e:TypeId} {size n:Nat} {v:Value} {cs:List Value},W.ownsRow b e size v n cs->69≠e->(W.setCell ⟨g1,i,none⟩ (.int .i64 x)).ownsRow b e size v n cs:=by
  intro e size n v cs ho hne;refine Dk ho (row:=some g1) ⟨rfl,rfl,rfl,by simp[World.setCell],fun k _ hk=>Below.heap_setCell W _ _ k (fun e=>hk (by rw[e]))⟩ (fun k hk=>?_);cases hk;exact⟨_,_,_,hc,hne⟩
 obtain⟨⟨cs0,fZ,AB⟩,ht,⟨s8,hr2,AD⟩⟩:=h.om;refine⟨⟨⟨cs0,fZ.nQ (fun _ _ hp=>hp),hf AB qd⟩,?_,⟨s8,hr2.nQ (fun _ _ hp=>hp),hf AD qd⟩⟩,⟨Go.Proofs.aD.aY.eB h.br.out (p:=⟨g1,i,none⟩) (Ne.symm (Ti hc h.br.out qd)) _⟩,⟨Go.Proofs.aD.aY.eB h.bo.out (p:=⟨g1,i,none⟩) (Ne.symm (Ti hc h.bo.out qd)) _⟩,h.below.setCell (Nat.le_trans h.hb hb) _,h.hb⟩;have:=ahN ht hi (.int .i64 x);unfold fQ at this ⊢;rw[List.map_set];exact this
theorem TI.aeh {g o b:Nat} {w:World} {v0 v2:Value} {g1 k1:Nat} {ps:PS} {zs:List Int} {n1:Nat} {ss:SS} {W:World} (h:TI g o b w v0 v2 g1 k1 ps zs n1 ss W) {t:Nat} (ht:t<n1) (x y z:Int):TI g o b w v0 v2 g1 k1 ps (Th zs t x y z) n1 ss (((W.setCell ⟨g1,t*3,none⟩ (.int .i64 x)).setCell ⟨g1,t*3+1,none⟩ (.int .i64 y)).setCell ⟨g1,t*3+2,none⟩ (.int .i64 z)) :=
 ((h.Vw qo x).Vw qo y).Vw qo z
theorem TI.dr {g o b:Nat} {w:World} {v0 v2:Value} {g1 k1:Nat} {ps:PS} {zs:List Int} {n1:Nat} {ss:SS} {W:World} (h:TI g o b w v0 v2 g1 k1 ps zs n1 ss W):TI g o b w v0 v2 g1 k1 ps zs n1 ss W.drew:=by
 obtain⟨⟨⟨cs0,fZ,AB⟩,ht,⟨s8,hr2,AD⟩⟩,hbr,WH,hbl,hb⟩:=h;exact⟨⟨⟨cs0,fZ.nQ (fun _ _ hp=>hp),AB⟩,ht,⟨s8,hr2.nQ (fun _ _ hp=>hp),AD⟩⟩,hbr,WH,hbl.drew,hb⟩
theorem TI.cells {g o b:Nat} {w:World} {v0 v2:Value} {g1 k1:Nat} {ps:PS} {zs:List Int} {n1:Nat} {ss:SS} {W:World} (h:TI g o b w v0 v2 g1 k1 ps zs n1 ss W) {t:Nat} (ht:t<n1) :
  ∃ u0 u1 u2,W.cell? ⟨g1,t*3,none⟩=some u0/\W.cell? ⟨g1,t*3+1,none⟩=some u1/\W.cell? ⟨g1,t*3+2,none⟩=some u2/\W.frozen? ⟨g1,t*3,none⟩=false/\W.frozen? ⟨g1,t*3+1,none⟩=false/\W.frozen? ⟨g1,t*3+2,none⟩=false:=by
 obtain⟨hb,c,hc,hs⟩:=h.g1;refine⟨c[t*3]'(by omega),c[t*3+1]'(by omega),c[t*3+2]'(by omega),?_,?_,?_,bU hc _,bU hc _,bU hc _⟩;all_goals rw[gB hc];exact Array.getElem?_eq_getElem _
theorem alq {n0 n1:Nat} {zs:List Int} {ss:SS} {bn:Nat->Nat->Nat->Int} (hM:n9 n0 zs n1 ss bn) (hD:∀ i j k,0<bn i j k->i≠j/\j≠k/\k≠i) {T k j:Nat} (hT:T<n1) (hk:k<=2) (hf:bK zs (zs.getD (3*T+nx k) 0) (zs.getD (3*T+k) 0) (3*n1)=some j):T≠j / 3:=by
 rintro rfl;obtain⟨hj,⟨e1,e2⟩,-⟩:=FO hf;have hc:=hM.c (j / 3) hT;unfold uF at hc;rw[Bool.and_eq_true,decide_eq_true_eq,decide_eq_true_eq]at hc
 obtain⟨⟨r0,r1,r2⟩,ho⟩:=hc;obtain⟨d1,d2,d3⟩:=hD _ _ _ ho;unfold g_ at r0 r1 r2;have hjk:j=3*(j / 3)+j%3:=by omega
 generalize hq:j%3=q at *;generalize j / 3=T at *;subst hjk;have xS:q=0\/q=1\/q=2:=by omega
 have hk3:k=0\/k=1\/k=2:=by omega
 rcases xS with rfl|rfl|rfl <;> rcases hk3 with rfl|rfl|rfl <;> simp only[show nx 0=1 from rfl,show nx 1=2 from rfl,show nx 2=0 from rfl,Nat.add_zero]at e1 e2 <;> omega
def LS (a b c d:ByteArray):Bool:=decide ((a.size:Int)<=40)&&(decide ((b.size:Int)<=40)&&(decide ((c.size:Int)<=40)&&decide ((d.size:Int)<=40)))
theorem alx (x:Bool) (a b:ByteArray) (y:Bool) (c d:ByteArray) (w:World) :
  Calls Tryz.prog 23 #[.agg #[.bool x,.string a,.string b,.bool y,.string c,.string d]] w fun e w'=>e = .returned (.bool (LS a b c d))/\Below w.heap.size w w':=by
 have HB:=qh ((Below.refl w.heap.size w).alloc (Nat.le_refl _) (.cells #[.bool x,.string a,.string b,.bool y,.string c,.string d] 54));unfold LS;generalize e1:decide ((a.size:Int)<=40)=p1;generalize e2:decide ((b.size:Int)<=40)=p2;generalize e3:decide ((c.size:Int)<=40)=p3;generalize e4:decide ((d.size:Int)<=40)=p4;cases p1
 ·go_enter Tryz.func23,Tryz.ntmps23
  go_wp2
  go_ret
  exact⟨rfl,HB.out⟩
 ·cases p2
  ·go_enter Tryz.func23,Tryz.ntmps23
   go_wp2
   go_ret
   exact⟨rfl,HB.out⟩
  ·cases p3
   ·go_enter Tryz.func23,Tryz.ntmps23
    go_wp2
    go_ret
    exact⟨rfl,HB.out⟩
   ·go_enter Tryz.func23,Tryz.ntmps23
    go_wp2
    go_ret
    exact⟨by simp,HB.out⟩
structure abY (p:Prop):Prop where
 out:p
def CT (ps:PS) (i:Nat):Bool:=LS (au ps i).f0.f0.f1 (au ps i).f0.f1 (au ps i).f1.f0.f1 (au ps i).f1.f1
def Tl (ps:PS) (n1:Nat) (ss:SS):Prop:=ps.length<=30/\n1<=45/\ss.length<=45/\∀ j,j<ps.length->CT ps j=true
theorem aly (A0 A1 A2:Option Addr) (c0 n1 c1 c2:Nat) (ps:PS) (ss:SS) (w:World) (hp:Kd.C eA w A0 ps.length ps) :
  Calls Tryz.prog 6 #[.agg #[.slice A0 ps.length c0,.slice A1 n1 c1,.slice A2 ss.length c2]] w fun e w'=>∃ b,e = .returned (.bool b)/\(b=true->Tl ps n1 ss)/\Below w.heap.size w w':=by
 obtain⟨n0,hn0⟩:∃ n,ps.length=n:=⟨_,rfl⟩
 obtain⟨n2,hn2⟩:∃ n,ss.length=n:=⟨_,rfl⟩
 have HM:=qh (MB.new w A0 A1 A2 n0 c0 n1 c1 n2 c2);rw[hn0]at hp
 have H0:=qh hn0;have H2:=qh hn2;have HP:=qh hp;rw[hn0,hn2];clear hp hn0 hn2;obtain⟨g,hg⟩:∃ g,w.heap.size=g:=⟨_,rfl⟩
 have HG:=qh hg;rw[hg]at HM
 have q0:=HM.out.b0;have q1:=HM.out.b1;have q2:=HM.out.b2;by_cases b0:(n0:Int)<=30
 ·have e0:decide ((30:Int)<(n0:Int))=false:=decide_eq_false qo
  have e0':decide (30<n0)=false:=decide_eq_false qo;by_cases b1:(n1:Int)<=45
  ·have e1:decide ((45:Int)<(n1:Int))=false:=decide_eq_false qo
   have e1':decide (45<n1)=false:=decide_eq_false qo;by_cases b2:(n2:Int)<=45
   ·have e2:decide ((45:Int)<(n2:Int))=false:=decide_eq_false qo
    have e2':decide (45<n2)=false:=decide_eq_false qo;have HL:=qh (show n0<=30/\n1<=45/\n2<=45 by omega);clear b0 b1 b2;go_enter Tryz.func6,Tryz.ntmps6;go_wp2
    clear q0 q1 q2;go_loopw [3] (fun v wr=>∃ (i:Nat),i<=n0/\v = .int .i64 (i:Int)/\Hid (MB g w A0 A1 A2 n0 c0 n1 c1 n2 c2 wr)/\Hid (∀ j,j<i->CT ps j=true)) (fun v _=>n0-(intOf v).toNat)
    case atStart=>exact⟨0,Nat.zero_le _,rfl,HM,qh (fun j hj=>absurd hj (Nat.not_lt_zero _))⟩
    case round =>
     obtain⟨i,ht,rfl,hI,hC⟩:=hrel;clear HM;have q0:=hI.out.b0;by_cases htn:i<n0
     ·have h1:decide ((i:Int)<(n0:Int))=true:=decide_eq_true qo
      have h2:((i:Int)<(n0:Int))=True:=eq_true qo;have h3:(i<n0)=True:=eq_true htn;have h4:((0:Int)<=(i:Int))=True:=eq_true qo;have gA:=Kd.xq HP.out (by rw[HG.out];exact hI.out.below);obtain⟨ad,rfl,-⟩:=oW gA (i:Int) qo qo;obtain⟨y0,y1,y2,y3,y4,y5⟩:=tD gA i htn;have HS:=qh (alx (au ps i).f0.f0.f0 (au ps i).f0.f0.f1 (au ps i).f0.f1 (au ps i).f1.f0.f0 (au ps i).f1.f0.f1 (au ps i).f1.f1 wr);have hs:LS (au ps i).f0.f0.f1 (au ps i).f0.f1 (au ps i).f1.f0.f1 (au ps i).f1.f1=CT ps i:=rfl;rw[hs]at HS
      have HT:=qh htn;clear hs gA htn ht;cases hb:CT ps i with
      | true =>
       rw[hb]at HS
       have HQ:=qh hb;clear hb;go_wp2_with (refine HS.out.mono ?_;rintro e w3 ⟨rfl,hb⟩;refine abY.out ?_)
       refine⟨?_⟩;have Fl:=qh (hI.out.step hb);clear hb;go_wp2
       rw[kB (by have:=HT.out;have:=HL.out;omega)];exact⟨⟨i+1,by have:=HT.out;omega,rfl,Fl,qh (fun j hj=>by
        rcases Nat.lt_succ_iff_lt_or_eq.1 hj with h|h
        ·exact hC.out j h
        ·subst h;exact HQ.out)⟩,by have:=HT.out;show n0-(((i+1:Nat):Int)).toNat<n0-((i:Nat):Int).toNat;omega⟩
      | false =>
       rw[hb]at HS
       clear hb;go_wp2_with (refine HS.out.mono ?_;rintro e w3 ⟨rfl,hb⟩;refine abY.out ?_)
       refine⟨?_⟩;have Fl:=qh (hI.out.step hb);clear hb;go_wp2
       go_ret
       exact⟨_,rfl,fun h=>(by cases h),by rw[HG.out];exact Fl.out.below⟩
     ·have h1:decide ((i:Int)<(n0:Int))=false:=decide_eq_false qo
      have CN:decide (i<n0)=false:=decide_eq_false htn;have HT:=qh (show i=n0 by omega);go_wp2
      go_ret
      exact⟨_,rfl,fun _=>by unfold Tl;rw[H0.out,H2.out];have h9:=HT.out;subst h9;exact⟨HL.out.1,HL.out.2.1,HL.out.2.2,hC.out⟩,by rw[HG.out];exact hI.out.below⟩
   ·have e2:decide ((45:Int)<(n2:Int))=true:=decide_eq_true qo
    have e2':decide (45<n2)=true:=decide_eq_true qo;clear b0 b1 b2;go_enter Tryz.func6,Tryz.ntmps6;go_wp2
    go_ret
    exact⟨_,rfl,fun h=>(by cases h),by rw[HG.out];exact HM.out.below⟩
  ·have e1:decide ((45:Int)<(n1:Int))=true:=decide_eq_true qo
   have e1':decide (45<n1)=true:=decide_eq_true qo;clear b0 b1;go_enter Tryz.func6,Tryz.ntmps6;go_wp2
   go_ret
   exact⟨_,rfl,fun h=>(by cases h),by rw[HG.out];exact HM.out.below⟩
 ·have e0:decide ((30:Int)<(n0:Int))=true:=decide_eq_true qo
  have e0':decide (30<n0)=true:=decide_eq_true qo;clear b0;go_enter Tryz.func6,Tryz.ntmps6;go_wp2
  go_ret
  exact⟨_,rfl,fun h=>(by cases h),by rw[HG.out];exact HM.out.below⟩
end Go.Proofs.YtcmepkhjggpmeaaGreat
