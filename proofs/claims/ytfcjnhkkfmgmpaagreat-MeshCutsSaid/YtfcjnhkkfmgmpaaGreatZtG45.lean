import Derived.Test.YtfcjnhkkfmgmpaaGreatZtG41
import Derived.Test.YtfcjnhkkfmgmpaaGreatZtG27
set_option linter.all false
set_option maxRecDepth 100000
set_option maxHeartbeats 8000000
namespace Go.Proofs.YtfcjnhkkfmgmpaaGreat
open Go.RowKit aS Go.Proofs.aA.R Go.Proofs.aA.Z Go.Proofs.aB.aZ
theorem aoz (ss:SS) (a b:Int) (j:Nat):lY ss a b j=true↔((bH ss j).f0=a/\(bH ss j).f1=b)\/((bH ss j).f0=b/\(bH ss j).f1=a):=by
 unfold lY;rw[Bool.and_eq_true,decide_eq_true_iff,decide_eq_true_iff];omega
theorem aoA (ss:SS) (a b:Int):∀ n i K,ss.length=i+n->2*n+1<=K->i+n<=100000->(∀ j,j<i->lY ss a b j=false)->jB.l0 K ss a b (i:Int)=some (oI (lG (lY ss a b) ss.length)):=by
 intro n;induction n with
 | zero =>
  intro i K hl hK hb hf;obtain⟨k,rfl⟩:∃ k,K=k+1:=⟨K-1,by omega⟩
  rw[jB.l0,if_neg qo,Oy.2 (fun j hj=>hf j qo)];rfl
 | succ n ih =>
  intro i K hl hK hb hf;obtain⟨k,rfl⟩:∃ k,K=k+1+1:=⟨K-2,by omega⟩
  have hgo:∀ c,lY ss a b i=c->jB.j1 (k+1) ss a b (i:Int) c=some (oI (lG (lY ss a b) ss.length)):=by
   intro c hc;rw[jB.j1];cases c with
   | true=>rw[if_pos rfl,acW hc hf _ qo];rfl
   | false =>
    rw[if_neg qd,mK qo];exact ih (i+1) k qo qo qo (fun j hj=>by
     rcases Nat.lt_succ_iff_lt_or_eq.1 hj with h|h
     ·exact hf j h
     ·subst h;exact hc)
  have hs:=aoz ss a b i;rw[jB.l0,if_pos qo,if_pos qo];show(if (bH ss i).f0=a then (if (bH ss i).f1=b then jB.j1 (k+1) ss a b i true else (if (bH ss i).f0=b then jB.j1 (k+1) ss a b i ((bH ss i).f1==a) else jB.j1 (k+1) ss a b i false)) else (if (bH ss i).f0=b then jB.j1 (k+1) ss a b i ((bH ss i).f1==a) else jB.j1 (k+1) ss a b i false))=_;have hq:∀ c:Bool,(c=true↔((bH ss i).f0=a/\(bH ss i).f1=b)\/((bH ss i).f0=b/\(bH ss i).f1=a))->jB.j1 (k+1) ss a b (i:Int) c=some (oI (lG (lY ss a b) ss.length)):=by
   intro c hc;refine hgo c ?_;have:=hs.trans hc.symm;cases c <;> cases h:lY ss a b i <;> simp_all
  by_cases e1:(bH ss i).f0=a
  ·rw[if_pos e1]
   by_cases e2:(bH ss i).f1=b
   ·rw[if_pos e2];exact hq _ (by simp[e1,e2])
   ·rw[if_neg e2]
    by_cases e3:(bH ss i).f0=b
    ·rw[if_pos e3];exact hq _ (by simp[e2,e3])
    ·rw[if_neg e3];exact hq _ (by simp[e2,e3])
  ·rw[if_neg e1]
   by_cases e3:(bH ss i).f0=b
   ·rw[if_pos e3];refine hq _ ?_;rw[beq_iff_eq];exact⟨fun h => .inr ⟨e3,h⟩,fun h=>h.elim (fun h=>absurd h.1 e1) (fun h=>h.2)⟩
   ·rw[if_neg e3];exact hq _ (by simp[e1,e3])
def pM (ss:SS) (a b:Int):Int:=oI (lG (lY ss a b) ss.length)
theorem acZ (ss:SS) (K:Nat) (hK:2*ss.length+1<=K) (hb:ss.length<=100000):ZB K ss (pM ss):=fun a b=>aoA ss a b ss.length 0 K qo hK qo (fun j hj=>absurd hj (Nat.not_lt_zero _))
theorem aoB {p:Nat->Bool}:∀ {m j:Nat},lG p m=some j->∀ i,i<j->p i=false:=by
 intro m;induction m with
 | zero=>intro j h;cases h
 | succ m ih =>
  intro j h i hi;unfold lG at h;cases hf:lG p m with
  | some x =>
   rw[hf]at h
   obtain rfl:=Option.some.inj h;exact ih hf i hi
  | none =>
   rw[hf]at h
   cases hp:p m with
   | true =>
    simp only[hp,if_pos]at h;obtain rfl:=Option.some.inj h;exact Oy.1 hf i hi
   | false=>simp[hp]at h
theorem apH {ps:PS} {zs:List Int} {n1:Nat} {ss:SS} {bJ:Nat->Nat->Nat->Int} (h:vI ps zs n1 ss 0 bJ (pM ss)):uG ps.length zs n1 ss bJ:=by
 refine⟨h.l0,h.l1,h.l2,h.c,h.d,fun i hi=>?_⟩;have hb:=h.s i hi;unfold I1 at hb;have h1:¬ (fT (bV zs (bH ss i).f0 (bH ss i).f1 (3*n1))<0/\fT (bV zs (bH ss i).f1 (bH ss i).f0 (3*n1))<0):=fun hh=>hb (.inl hh);have h2:pM ss (bH ss i).f0 (bH ss i).f1=i:=by
  rcases Int.decEq (pM ss (bH ss i).f0 (bH ss i).f1) i with h|h
  ·exact absurd (.inr h) hb
  ·exact h
 constructor
 ·cases e1:bV zs (bH ss i).f0 (bH ss i).f1 (3*n1) with
  | some j=>exact .inl rfl
  | none =>
   cases e2:bV zs (bH ss i).f1 (bH ss i).f0 (3*n1) with
   | some j=>exact .inr rfl
   | none=>rw[e1,e2]at h1;exact absurd ⟨by decide,by decide⟩ h1
 ·intro j hj he
  unfold pM at h2;cases hf:lG (lY ss (bH ss i).f0 (bH ss i).f1) ss.length with
  | none=>rw[hf]at h2;simp only[oI]at h2;omega
  | some q =>
   rw[hf]at h2
   have hq:q=i:=by simp only[oI]at h2;omega
   subst hq;have:=aoB hf j hj;unfold lY at this;rw[decide_eq_true he.1,decide_eq_true he.2]at this
   exact absurd this qd
theorem aoC (ps:PS):∀ n i K,ps.length=i+n->n+1<=K->i+n<=100000->rK.l0 K ps ps (i:Int)=some true:=by
 intro n;induction n with
 | zero =>
  intro i K hl hK hb;obtain⟨k,rfl⟩:∃ k,K=k+1:=⟨K-1,by omega⟩
  rw[rK.l0,if_neg qo]
 | succ n ih =>
  intro i K hl hK hb;obtain⟨k,rfl⟩:∃ k,K=k+1:=⟨K-1,by omega⟩
  rw[rK.l0,if_pos qo,if_pos qo,if_pos qo,if_neg (by simp),mK qo];exact ih (i+1) k qo qo qo
theorem aoD (ps:PS) (K:Nat) (hK:ps.length+1<=K) (hb:ps.length<=100000):rK.f K ps ps=some true:=by
 rw[rK.f,if_pos rfl];exact aoC ps ps.length 0 K qo hK qo
theorem aoE (ss:SS):∀ n i K,ss.length=i+n->n+1<=K->i+n<=100000->rL.l0 K ss ss (i:Int)=some true:=by
 intro n;induction n with
 | zero =>
  intro i K hl hK hb;obtain⟨k,rfl⟩:∃ k,K=k+1:=⟨K-1,by omega⟩
  rw[rL.l0,if_neg qo]
 | succ n ih =>
  intro i K hl hK hb;obtain⟨k,rfl⟩:∃ k,K=k+1:=⟨K-1,by omega⟩
  rw[rL.l0,if_pos qo,if_pos qo,if_pos qo,if_neg (by simp),mK qo];exact ih (i+1) k qo qo qo
theorem aoF (ss:SS) (K:Nat) (hK:ss.length+1<=K) (hb:ss.length<=100000):rL.f K ss ss=some true:=by
 rw[rL.f,if_pos rfl];exact aoE ss ss.length 0 K qo hK qo
abbrev MO:=Int × PS × List Int × Nat × SS
def lT (r:Int):MO:=(r,[],[],0,[])
def uR (zs:List Int) (t:Nat) (a b c:Int):List Int:=((zs.set (t*3) a).set (t*3+1) b).set (t*3+2) c
def wu (zs:List Int) (n1:Nat) (ss:SS) (bJ:Nat->Nat->Nat->Int) (a b c:Int):Option Nat :=
 match bV zs b a (3*n1) with
 | none=>none
 | some j=>if 0<=pM ss a b\/(bV zs c (zs.getD (3*(j / 3)+px (j%3)) 0) (3*n1)).isSome=true\/(bV zs (zs.getD (3*(j / 3)+px (j%3)) 0) c (3*n1)).isSome=true\/¬ 0<bJ (zs.getD (3*(j / 3)+px (j%3)) 0).toNat b.toNat c.toNat\/¬ 0<bJ (zs.getD (3*(j / 3)+px (j%3)) 0).toNat c.toNat a.toNat then none else some j
def xE (zs:List Int) (t j:Nat) (a b c d:Int):List Int:=uR (uR zs t d b c) (j / 3) d c a
def vo (ps:PS) (zs:List Int) (n1:Nat) (ss:SS) (bJ:Nat->Nat->Nat->Int) (t k:Int):MO :=
 if qm n1 t k=true then
  (match wu zs n1 ss bJ (zs.getD (3*t.toNat+k.toNat) 0) (zs.getD (3*t.toNat+nx k.toNat) 0) (zs.getD (3*t.toNat+px k.toNat) 0) with
  | none=>lT 7
  | some j=>(0,ps,xE zs t.toNat j (zs.getD (3*t.toNat+k.toNat) 0) (zs.getD (3*t.toNat+nx k.toNat) 0) (zs.getD (3*t.toNat+px k.toNat) 0) (zs.getD (3*(j / 3)+px (j%3)) 0),n1,ss))
 else lT 1
theorem aoG {ps:PS} {zs:List Int} {n1:Nat} {ss:SS} {bJ:Nat->Nat->Nat->Int} {t k:Int} {T j jt jk na nb nc nd:Nat} {sg:Int} {o1 o2 bb:Bool}
  (HR:vo ps zs n1 ss bJ t k=match wu zs n1 ss bJ na nb nc with
   | none=>lT 7
   | some j=>(0,ps,xE zs T j na nb nc (zs.getD (3*(j / 3)+px (j%3)) 0),n1,ss))
  (Ej:bV zs nb na (3*n1)=some j) (vN:j / 3=jt) (Af:j%3=jk) (BZ:zs.getD (3*jt+px jk) 0=nd) (HS:pM ss na nb=sg) (hq:¬ 0<=sg)
  (O1:(bV zs (nc:Int) (nd:Int) (3*n1)).isSome=o1) (O2:(bV zs (nd:Int) (nc:Int) (3*n1)).isSome=o2) (mD:(o1||(o2||(!decide (0<bJ nd nb nc)||!decide (0<bJ nd nc na))))=bb) :
  vo ps zs n1 ss bJ t k=if bb=true then lT 7 else (0,ps,xE zs T j na nb nc nd,n1,ss):=by
 have e:wu zs n1 ss bJ na nb nc=if bb=true then none else some j:=by
  unfold wu;rw[Ej];simp only[vN,Af,BZ,HS,O1,O2,Int.toNat_natCast];rw[<- mD];by_cases c3:0<bJ nd nb nc <;> by_cases c4:0<bJ nd nc na <;> cases o1 <;> cases o2 <;> simp[hq,c3,c4]
 rw[HR,e];cases bb with
 | true=>rfl
 | false =>
  show(0,ps,xE zs T j na nb nc (zs.getD (3*(j / 3)+px (j%3)) 0),n1,ss)=_;rw[vN,Af,BZ];rfl
def uS (w:World) (o:MO) (e:Ending) (w':World):Prop:=∃ v0 v1 v2,e = .returned (.tuple #[.agg #[v0,v1,v2],.int .i64 o.1])/\OM w' w.heap.size v0 v1 v2 o.2.1 o.2.2.1 o.2.2.2.1 o.2.2.2.2/\Below w.heap.size w w'
theorem uS.bad (w:World) (r:Int) (w':World) (hb:Below w.heap.size w w'):uS w (lT r) (.returned (.tuple #[.agg fI,.int .i64 r])) w':=⟨_,_,_,rfl,OM.nil _ _,hb⟩
structure Stop (p:Prop):Prop where
 out:p
theorem sx {P:Program} {R:Ending->World->Prop} {fn:Func} {p u:Tmp} {ty:TypeId} {a:Act} {w:World} {g:Nat} {t:TypeId} {cs:Array Value} {fr:Nat × Nat} {d:TypeDesc} {v:Value} (h:fn.results=#[.cell p ty,.tmp u])
  (hp:a.tmps.getD p undef = .pointer (some ⟨g,0,none⟩)) (hv:a.tmps.getD u undef=v) (hg:w.heap[g]?=some (.cells cs t fr)) (hu:P.underlying ty=some d) (hd:(match d with | .struct _ | .array _ _=>true|_=>false)=true) (hi:(P.info? ty).map (·.size)=some cs.size)
  (hdf:a.defers=[]) (hR:R (.returned (.tuple #[.agg cs,v])) w):bodyPost P fn R .ret a w :=
 bodyPost_ret (hv ▸ pP h a.tmps w g t cs fr d hp hg hu hd hi) hdf hR
theorem ret3 {g r:Nat} {w:World} {x0 x1 x2:Value} {W:World} (hb:Below g w W) (hr:aO (W.heap[r]?=some (.cells #[x0,x1,x2] 26 (0,0)))) (h1:g<r) (a b c:Value) :
  (((W.setCell ⟨r,0,none⟩ a).setCell ⟨r,1,none⟩ b).setCell ⟨r,2,none⟩ c).heap[r]?=some (.cells #[a,b,c] 26 (0,0))/\Below g w (((W.setCell ⟨r,0,none⟩ a).setCell ⟨r,1,none⟩ b).setCell ⟨r,2,none⟩ c) :=
 ⟨uK (uK (uK hr.out 0 a) 1 b) 2 c,((hb.setCell (p:=⟨r,0,none⟩) (Nat.le_of_lt h1) a).setCell (p:=⟨r,1,none⟩) (Nat.le_of_lt h1) b).setCell (p:=⟨r,2,none⟩) (Nat.le_of_lt h1) c⟩
structure FI (g kb B:Nat) (w:World) (A0 A1 A2:Option Addr) (n0 c0 n1 c1 n2 c2:Nat) (zs:List Int) (W:World):Prop where
 box:MB g w A0 A1 A2 n0 c0 n1 c1 n2 c2 W
 br:aO (W.heap[g+1]?=some (.cells fI 26 (0,0)))
 m:SMap W B zs (3*n1)
 k1:W.cell? ⟨kb,1,none⟩=some (.slice A1 n1 c1)
 k3:W.cell? ⟨kb,3,none⟩=some (.map (some B))
theorem FI.step {g kb B:Nat} {w:World} {A0 A1 A2:Option Addr} {n0 c0 n1 c1 n2 c2:Nat} {zs:List Int} {W W':World} (h:FI g kb B w A0 A1 A2 n0 c0 n1 c1 n2 c2 zs W) (hb:Below W.heap.size W W'):FI g kb B w A0 A1 A2 n0 c0 n1 c1 n2 c2 zs W' :=
 ⟨h.box.step hb,⟨eW h.br.out hb⟩,h.m.below hb h.m.lt,(hb.cell (ql h.k1)).trans h.k1,(hb.cell (ql h.k3)).trans h.k3⟩
theorem U4 {W:World} {b g1 n cap sz:Nat} {e:TypeId} {cs:List Value} (h:W.ownsRow b e sz (.slice (some ⟨g1,0,none⟩) n cap) n cs) {i:Nat} (hi:i<n*sz) (u:Value):(W.setCell ⟨g1,i,none⟩ u).ownsRow b e sz (.slice (some ⟨g1,0,none⟩) n cap) n (cs.set i u):=by
 refine⟨by rw[List.length_set];exact h.1,?_⟩;rcases h.2 with ⟨h1,-⟩|⟨g,cap',cur,he,hb,hh,h1,h2,h3,h4⟩
 ·cases h1
 ·injection he with e1 e2 e3
  injection e1 with e1
  injection e1 with e1 _ _
  subst e1 e3;refine .inr ⟨g1,cap,cur.setIfInBounds i u,rfl,hb,uK hh i u,h1,h2,by rw[Array.size_setIfInBounds];exact h3,?_⟩;rw[Array.toList_setIfInBounds,List.take_set,h4]
structure TI (g o b:Nat) (w:World) (v0 v2:Value) (g1 k1:Nat) (ps:PS) (zs:List Int) (n1:Nat) (ss:SS) (W:World):Prop where
 om:OM W b v0 (.slice (some ⟨g1,0,none⟩) n1 k1) v2 ps zs n1 ss
 br:aO (W.heap[g+1]?=some (.cells fI 26 (0,0)))
 bo:aO (W.heap[o]?=some (.cells #[v0,.slice (some ⟨g1,0,none⟩) n1 k1,v2] 26 (0,0)))
 below:Below g w W
 hb:g<=b
theorem TI.g1 {g o b:Nat} {w:World} {v0 v2:Value} {g1 k1:Nat} {ps:PS} {zs:List Int} {n1:Nat} {ss:SS} {W:World} (h:TI g o b w v0 v2 g1 k1 ps zs n1 ss W):b<=g1/\∃ c,W.heap[g1]?=some (.cells c 61 (0,0))/\n1*3<=c.size:=by
 rcases h.om.t.2 with ⟨h1,-⟩|⟨g,cap',cur,he,hb,hh,h1,h2,h3,h4⟩
 ·cases h1
 ·injection he with e1 e2 e3
  injection e1 with e1
  injection e1 with e1 _ _
  subst e1 e3;exact⟨hb,cur,hh,by rw[h3];exact Nat.mul_le_mul_right _ h1⟩
theorem OM.blk {W:World} {b:Nat} {v0 v1 v2:Value} {ps:PS} {zs:List Int} {n1:Nat} {ss:SS} (h:OM W b v0 v1 v2 ps zs n1 ss) (h0:0<n1):∃ g1 k1,v1 = .slice (some ⟨g1,0,none⟩) n1 k1:=by
 rcases h.t.2 with ⟨-,h1⟩|⟨g,cap',cur,he,-⟩
 ·omega
 ·exact⟨g,cap',he⟩
theorem OM.ZY {W:World} {b b':Nat} {v0 v1 v2:Value} {ps:PS} {zs:List Int} {n1:Nat} {ss:SS} (h:OM W b v0 v1 v2 ps zs n1 ss) {r:Nat} (hr:r<b) (hb:b'<=b) (x y z:Value):OM (((W.setCell ⟨r,0,none⟩ x).setCell ⟨r,1,none⟩ y).setCell ⟨r,2,none⟩ z) b' v0 v1 v2 ps zs n1 ss:=by
 obtain⟨⟨cs0,dm,kH⟩,ht,⟨kI,hr2,mU⟩⟩:=h;exact⟨⟨cs0,dm.jh (fun _ _ hp=>hp),uI (AE kH hr x y z) hb⟩,uI (AE ht hr x y z) hb,⟨kI,hr2.jh (fun _ _ hp=>hp),uI (AE mU hr x y z) hb⟩⟩
theorem y9 {W:World} {p q:Nat} {c d:Array Value} {s t:TypeId} {f f':Nat × Nat} (h:W.heap[p]?=some (.cells c s f)) (h':W.heap[q]?=some (.cells d t f')) (hn:s≠t):p≠q:=by
 rintro rfl;rw[h]at h'
 injection h' with h'
 injection h' with _ h'
 exact hn h'
theorem TI.Gr {g o b:Nat} {w:World} {v0 v2:Value} {g1 k1:Nat} {ps:PS} {zs:List Int} {n1:Nat} {ss:SS} {W:World} (h:TI g o b w v0 v2 g1 k1 ps zs n1 ss W) {i:Nat} (hi:i<n1*3) (x:Int):TI g o b w v0 v2 g1 k1 ps (zs.set i x) n1 ss (W.setCell ⟨g1,i,none⟩ (.int .i64 x)):=by
 obtain⟨hb,c,hc,-⟩:=h.g1;have hf:∀ {e:TypeId} {size n:Nat} {v:Value} {cs:List Value},W.ownsRow b e size v n cs->61≠e->(W.setCell ⟨g1,i,none⟩ (.int .i64 x)).ownsRow b e size v n cs:=by
  intro e size n v cs ho hne;refine yP ho (row:=some g1) ⟨rfl,rfl,rfl,by simp[World.setCell],fun k _ hk=>Below.heap_setCell W _ _ k (fun e=>hk (by rw[e]))⟩ (fun k hk=>?_);cases hk;exact⟨_,_,_,hc,hne⟩
 obtain⟨⟨cs0,dm,kH⟩,ht,⟨kI,hr2,mU⟩⟩:=h.om;refine⟨⟨⟨cs0,dm.jh (fun _ _ hp=>hp),hf kH qd⟩,?_,⟨kI,hr2.jh (fun _ _ hp=>hp),hf mU qd⟩⟩,⟨Go.Proofs.aB.aZ.dQ h.br.out (p:=⟨g1,i,none⟩) (Ne.symm (y9 hc h.br.out qd)) _⟩,⟨Go.Proofs.aB.aZ.dQ h.bo.out (p:=⟨g1,i,none⟩) (Ne.symm (y9 hc h.bo.out qd)) _⟩,h.below.setCell (Nat.le_trans h.hb hb) _,h.hb⟩;have:=U4 ht hi (.int .i64 x);unfold ko at this ⊢;rw[List.map_set];exact this
theorem TI.Gs {g o b:Nat} {w:World} {v0 v2:Value} {g1 k1:Nat} {ps:PS} {zs:List Int} {n1:Nat} {ss:SS} {W:World} (h:TI g o b w v0 v2 g1 k1 ps zs n1 ss W) {t:Nat} (ht:t<n1) (x y z:Int):TI g o b w v0 v2 g1 k1 ps (uR zs t x y z) n1 ss (((W.setCell ⟨g1,t*3,none⟩ (.int .i64 x)).setCell ⟨g1,t*3+1,none⟩ (.int .i64 y)).setCell ⟨g1,t*3+2,none⟩ (.int .i64 z)) :=
 ((h.Gr qo x).Gr qo y).Gr qo z
theorem TI.dr {g o b:Nat} {w:World} {v0 v2:Value} {g1 k1:Nat} {ps:PS} {zs:List Int} {n1:Nat} {ss:SS} {W:World} (h:TI g o b w v0 v2 g1 k1 ps zs n1 ss W):TI g o b w v0 v2 g1 k1 ps zs n1 ss W.drew:=by
 obtain⟨⟨⟨cs0,dm,kH⟩,ht,⟨kI,hr2,mU⟩⟩,hbr,N6,hbl,hb⟩:=h;exact⟨⟨⟨cs0,dm.jh (fun _ _ hp=>hp),kH⟩,ht,⟨kI,hr2.jh (fun _ _ hp=>hp),mU⟩⟩,hbr,N6,hbl.drew,hb⟩
theorem TI.cells {g o b:Nat} {w:World} {v0 v2:Value} {g1 k1:Nat} {ps:PS} {zs:List Int} {n1:Nat} {ss:SS} {W:World} (h:TI g o b w v0 v2 g1 k1 ps zs n1 ss W) {t:Nat} (ht:t<n1) :
  ∃ u0 u1 u2,W.cell? ⟨g1,t*3,none⟩=some u0/\W.cell? ⟨g1,t*3+1,none⟩=some u1/\W.cell? ⟨g1,t*3+2,none⟩=some u2/\W.frozen? ⟨g1,t*3,none⟩=false/\W.frozen? ⟨g1,t*3+1,none⟩=false/\W.frozen? ⟨g1,t*3+2,none⟩=false:=by
 obtain⟨hb,c,hc,hs⟩:=h.g1;refine⟨c[t*3]'(by omega),c[t*3+1]'(by omega),c[t*3+2]'(by omega),?_,?_,?_,b_ hc _,b_ hc _,b_ hc _⟩;all_goals rw[eA hc];exact Array.getElem?_eq_getElem _
theorem aoH {n0 n1:Nat} {zs:List Int} {ss:SS} {bJ:Nat->Nat->Nat->Int} (hM:uG n0 zs n1 ss bJ) (hD:∀ i j k,0<bJ i j k->i≠j/\j≠k/\k≠i) {T k j:Nat} (hT:T<n1) (hk:k<=2) (hf:bV zs (zs.getD (3*T+nx k) 0) (zs.getD (3*T+k) 0) (3*n1)=some j):T≠j / 3:=by
 rintro rfl;obtain⟨hj,⟨e1,e2⟩,-⟩:=Ex hf;have hc:=hM.c (j / 3) hT;unfold zi at hc;rw[Bool.and_eq_true,decide_eq_true_eq,decide_eq_true_eq]at hc
 obtain⟨⟨r0,r1,r2⟩,ho⟩:=hc;obtain⟨d1,d2,d3⟩:=hD _ _ _ ho;unfold iW at r0 r1 r2;have hjk:j=3*(j / 3)+j%3:=by omega
 generalize hq:j%3=q at *;generalize j / 3=T at *;subst hjk;have z_:q=0\/q=1\/q=2:=by omega
 have hk3:k=0\/k=1\/k=2:=by omega
 rcases z_ with rfl|rfl|rfl <;> rcases hk3 with rfl|rfl|rfl <;> simp only[show nx 0=1 from rfl,show nx 1=2 from rfl,show nx 2=0 from rfl,Nat.add_zero]at e1 e2 <;> omega
def Ek (a b c d:ByteArray):Bool:=decide ((a.size:Int)<=40)&&(decide ((b.size:Int)<=40)&&(decide ((c.size:Int)<=40)&&decide ((d.size:Int)<=40)))
theorem ac5 (x:Bool) (a b:ByteArray) (y:Bool) (c d:ByteArray) (w:World) :
  Calls Tryz.prog 13 #[.agg #[.bool x,.string a,.string b,.bool y,.string c,.string d]] w fun e w'=>e = .returned (.bool (Ek a b c d))/\Below w.heap.size w w':=by
 have HB:=qh ((Below.refl w.heap.size w).alloc (Nat.le_refl _) (.cells #[.bool x,.string a,.string b,.bool y,.string c,.string d] 42));unfold Ek;generalize e1:decide ((a.size:Int)<=40)=p1;generalize e2:decide ((b.size:Int)<=40)=p2;generalize e3:decide ((c.size:Int)<=40)=p3;generalize e4:decide ((d.size:Int)<=40)=p4;cases p1
 ·go_enter Tryz.func13,Tryz.ntmps13
  go_wp2
  go_ret
  exact⟨rfl,HB.out⟩
 ·cases p2
  ·go_enter Tryz.func13,Tryz.ntmps13
   go_wp2
   go_ret
   exact⟨rfl,HB.out⟩
  ·cases p3
   ·go_enter Tryz.func13,Tryz.ntmps13
    go_wp2
    go_ret
    exact⟨rfl,HB.out⟩
   ·go_enter Tryz.func13,Tryz.ntmps13
    go_wp2
    go_ret
    exact⟨by simp,HB.out⟩
structure afP (p:Prop):Prop where
 out:p
def El (ps:PS) (i:Nat):Bool:=Ek (ay ps i).f0.f0.f1 (ay ps i).f0.f1 (ay ps i).f1.f0.f1 (ay ps i).f1.f1
def Wm (ps:PS) (n1:Nat) (ss:SS):Prop:=ps.length<=30/\n1<=45/\ss.length<=45/\∀ j,j<ps.length->El ps j=true
theorem aoL (A0 A1 A2:Option Addr) (c0 n1 c1 c2:Nat) (ps:PS) (ss:SS) (w:World) (hp:Kd.C dX w A0 ps.length ps) :
  Calls Tryz.prog 6 #[.agg #[.slice A0 ps.length c0,.slice A1 n1 c1,.slice A2 ss.length c2]] w fun e w'=>∃ b,e = .returned (.bool b)/\(b=true->Wm ps n1 ss)/\Below w.heap.size w w':=by
 obtain⟨n0,hn0⟩:∃ n,ps.length=n:=⟨_,rfl⟩
 obtain⟨n2,hn2⟩:∃ n,ss.length=n:=⟨_,rfl⟩
 have HM:=qh (MB.new w A0 A1 A2 n0 c0 n1 c1 n2 c2);rw[hn0]at hp
 have H0:=qh hn0;have H2:=qh hn2;have HP:=qh hp;rw[hn0,hn2];clear hp hn0 hn2;obtain⟨g,hg⟩:∃ g,w.heap.size=g:=⟨_,rfl⟩
 have HG:=qh hg;rw[hg]at HM
 have q0:=HM.out.b0;have q1:=HM.out.b1;have q2:=HM.out.b2;by_cases b0:(n0:Int)<=30
 ·have e0:decide ((30:Int)<(n0:Int))=false:=decide_eq_false qo
  have B9:decide (30<n0)=false:=decide_eq_false qo;by_cases b1:(n1:Int)<=45
  ·have e1:decide ((45:Int)<(n1:Int))=false:=decide_eq_false qo
   have B_:decide (45<n1)=false:=decide_eq_false qo;by_cases b2:(n2:Int)<=45
   ·have e2:decide ((45:Int)<(n2:Int))=false:=decide_eq_false qo
    have Oa:decide (45<n2)=false:=decide_eq_false qo;have HL:=qh (show n0<=30/\n1<=45/\n2<=45 by omega);clear b0 b1 b2;go_enter Tryz.func6,Tryz.ntmps6;go_wp2
    clear q0 q1 q2;go_loopw [3] (fun v wr=>∃ (i:Nat),i<=n0/\v = .int .i64 (i:Int)/\Hid (MB g w A0 A1 A2 n0 c0 n1 c1 n2 c2 wr)/\Hid (∀ j,j<i->El ps j=true)) (fun v _=>n0-(intOf v).toNat)
    case atStart=>exact⟨0,Nat.zero_le _,rfl,HM,qh (fun j hj=>absurd hj (Nat.not_lt_zero _))⟩
    case round =>
     obtain⟨i,ht,rfl,hI,hC⟩:=hrel;clear HM;have q0:=hI.out.b0;by_cases htn:i<n0
     ·have h1:decide ((i:Int)<(n0:Int))=true:=decide_eq_true qo
      have h2:((i:Int)<(n0:Int))=True:=eq_true qo;have h3:(i<n0)=True:=eq_true htn;have h4:((0:Int)<=(i:Int))=True:=eq_true qo;have gJ:=Kd.yM HP.out (by rw[HG.out];exact hI.out.below);obtain⟨ad,rfl,-⟩:=oB gJ (i:Int) qo qo;obtain⟨y0,y1,y2,y3,y4,y5⟩:=uV gJ i htn;have HS:=qh (ac5 (ay ps i).f0.f0.f0 (ay ps i).f0.f0.f1 (ay ps i).f0.f1 (ay ps i).f1.f0.f0 (ay ps i).f1.f0.f1 (ay ps i).f1.f1 wr);have hs:Ek (ay ps i).f0.f0.f1 (ay ps i).f0.f1 (ay ps i).f1.f0.f1 (ay ps i).f1.f1=El ps i:=rfl;rw[hs]at HS
      have HT:=qh htn;clear hs gJ htn ht;cases hb:El ps i with
      | true =>
       rw[hb]at HS
       have HQ:=qh hb;clear hb;go_wp2_with (refine HS.out.mono ?_;rintro e w3 ⟨rfl,hb⟩;refine afP.out ?_)
       refine⟨?_⟩;have vJ:=qh (hI.out.step hb);clear hb;go_wp2
       rw[mK (by have:=HT.out;have:=HL.out;omega)];exact⟨⟨i+1,by have:=HT.out;omega,rfl,vJ,qh (fun j hj=>by
        rcases Nat.lt_succ_iff_lt_or_eq.1 hj with h|h
        ·exact hC.out j h
        ·subst h;exact HQ.out)⟩,by have:=HT.out;show n0-(((i+1:Nat):Int)).toNat<n0-((i:Nat):Int).toNat;omega⟩
      | false =>
       rw[hb]at HS
       clear hb;go_wp2_with (refine HS.out.mono ?_;rintro e w3 ⟨rfl,hb⟩;refine afP.out ?_)
       refine⟨?_⟩;have vJ:=qh (hI.out.step hb);clear hb;go_wp2
       go_ret
       exact⟨_,rfl,fun h=>(by cases h),by rw[HG.out];exact vJ.out.below⟩
     ·have h1:decide ((i:Int)<(n0:Int))=false:=decide_eq_false qo
      have BV:decide (i<n0)=false:=decide_eq_false htn;have HT:=qh (show i=n0 by omega);go_wp2
      go_ret
      exact⟨_,rfl,fun _=>by unfold Wm;rw[H0.out,H2.out];have h9:=HT.out;subst h9;exact⟨HL.out.1,HL.out.2.1,HL.out.2.2,hC.out⟩,by rw[HG.out];exact hI.out.below⟩
   ·have e2:decide ((45:Int)<(n2:Int))=true:=decide_eq_true qo
    have Oa:decide (45<n2)=true:=decide_eq_true qo;clear b0 b1 b2;go_enter Tryz.func6,Tryz.ntmps6;go_wp2
    go_ret
    exact⟨_,rfl,fun h=>(by cases h),by rw[HG.out];exact HM.out.below⟩
  ·have e1:decide ((45:Int)<(n1:Int))=true:=decide_eq_true qo
   have B_:decide (45<n1)=true:=decide_eq_true qo;clear b0 b1;go_enter Tryz.func6,Tryz.ntmps6;go_wp2
   go_ret
   exact⟨_,rfl,fun h=>(by cases h),by rw[HG.out];exact HM.out.below⟩
 ·have e0:decide ((30:Int)<(n0:Int))=true:=decide_eq_true qo
  have B9:decide (30<n0)=true:=decide_eq_true qo;clear b0;go_enter Tryz.func6,Tryz.ntmps6;go_wp2
  go_ret
  exact⟨_,rfl,fun h=>(by cases h),by rw[HG.out];exact HM.out.below⟩
structure afT (p:Prop):Prop where
 out:p
structure M2 (g:Nat) (w:World) (A0 A1 A2 B0 B1 B2:Option Addr) (n0 c0 n1 c1 n2 c2 d0 d1 d2:Nat) (wr:World):Prop where
 a:MB g w A0 A1 A2 n0 c0 n1 c1 n2 c2 wr
 b0:wr.cell? ⟨g+1,0,none⟩=some (.slice B0 n0 d0)
 b1:wr.cell? ⟨g+1,1,none⟩=some (.slice B1 n1 d1)
 b2:wr.cell? ⟨g+1,2,none⟩=some (.slice B2 n2 d2)
theorem M2.step {g:Nat} {w:World} {A0 A1 A2 B0 B1 B2:Option Addr} {n0 c0 n1 c1 n2 c2 d0 d1 d2:Nat} {wr w2:World} (h:M2 g w A0 A1 A2 B0 B1 B2 n0 c0 n1 c1 n2 c2 d0 d1 d2 wr) (hb:Below wr.heap.size wr w2):M2 g w A0 A1 A2 B0 B1 B2 n0 c0 n1 c1 n2 c2 d0 d1 d2 w2 :=
 ⟨h.a.step hb,(hb.cell (ql h.b0)).trans h.b0,(hb.cell (ql h.b1)).trans h.b1,(hb.cell (ql h.b2)).trans h.b2⟩
theorem aaQ {w:World} {ad:Addr} {n:Nat} {zs:List Int} (h:IR w (some ad) (3*n) zs) {t:Nat} (ht:t<n):w.cell? (ad.add (t*3))=some (.int .i64 (zs.getD (3*t) 0))/\w.cell? ⟨(ad.add (t*3)).block,(ad.add (t*3)).off+1,none⟩=some (.int .i64 (zs.getD (3*t+1) 0))/\w.cell? ⟨(ad.add (t*3)).block,(ad.add (t*3)).off+2,none⟩=some (.int .i64 (zs.getD (3*t+2) 0)):=by
 obtain⟨zZ,e,hc⟩:=h qo;obtain rfl:=Option.some.inj e;have y0:=hc (t*3) qo;have y1:=hc (t*3+1) qo;have y2:=hc (t*3+2) qo;rw[xF _ _ _ qd]at y1 y2
 rw[show t*3=3*t by omega]at y0 y1 y2 ⊢
 exact⟨y0,y1,y2⟩
attribute [local go_sem high] eqT
theorem adQ (A0 A1 A2 B0 B1 B2:Option Addr) (c0 n1 c1 c2 d0 d1 d2:Nat) (ps:PS) (zs:List Int) (ss:SS) (w:World) (hA:mJ w A0 A1 A2 c0 c2 ps zs n1 ss) (hB:mJ w B0 B1 B2 d0 d2 ps zs n1 ss) (hl:ps.length<=1000/\n1<=1000/\ss.length<=2000) (K:Nat) (hK:2001<=K) :
  Calls Tryz.prog 12 #[.agg #[.slice A0 ps.length c0,.slice A1 n1 c1,.slice A2 ss.length c2],.agg #[.slice B0 ps.length d0,.slice B1 n1 d1,.slice B2 ss.length d2]] w fun e w'=>e = .returned (.bool true)/\Below w.heap.size w w':=by
 obtain⟨n0,hn0⟩:∃ n,ps.length=n:=⟨_,rfl⟩
 obtain⟨n2,hn2⟩:∃ n,ss.length=n:=⟨_,rfl⟩
 have HM:=qh (show M2 w.heap.size w A0 A1 A2 B0 B1 B2 n0 c0 n1 c1 n2 c2 d0 d1 d2 ((w.alloc (.cells #[.slice A0 n0 c0,.slice A1 n1 c1,.slice A2 n2 c2] 26)).alloc (.cells #[.slice B0 n0 d0,.slice B1 n1 d1,.slice B2 n2 d2] 26)) from
  ⟨(MB.new w A0 A1 A2 n0 c0 n1 c1 n2 c2).step ((Below.refl _ _).alloc (Nat.le_refl _) _),by simp[go_sem],by simp[go_sem],by simp[go_sem]⟩)
 rw[hn0,hn2]at hl
 have HL:=qh hl;have H0:=qh hn0;have H2:=qh hn2;have HA:=qh hA;have HB:=qh hB;have uH:=qh (aoD ps K qo qo);have HS2:=qh (aoF ss K qo qo);rw[hn0,hn2];clear hA hB hl hn0 hn2 hK;obtain⟨g,hg⟩:∃ g,w.heap.size=g:=⟨_,rfl⟩
 have HG:=qh hg;rw[hg]at HM
 go_enter Tryz.func12,Tryz.ntmps12;go_upto_region 1 with fail
 generalize ((w.alloc (.cells #[.slice A0 n0 c0,.slice A1 n1 c1,.slice A2 n2 c2] 26)).alloc (.cells #[.slice B0 n0 d0,.slice B1 n1 d1,.slice B2 n2 d2] 26))=w1 at HM ⊢;have q1:=HM.out.a.b1;have q2:=HM.out.b1;go_wp2
 clear q1 q2;go_loopw [5] (fun v wr=>∃ (i:Nat),i<=n1/\v = .int .i64 (i:Int)/\Hid (M2 g w A0 A1 A2 B0 B1 B2 n0 c0 n1 c1 n2 c2 d0 d1 d2 wr)) (fun v _=>n1-(intOf v).toNat)
 case atStart=>exact⟨0,Nat.zero_le _,rfl,HM⟩
 case round =>
  obtain⟨i,ht,rfl,hI⟩:=hrel;clear HM;have q1:=hI.out.a.b1;have q2:=hI.out.b1;by_cases htn:i<n1
  ·have h1:decide ((i:Int)<(n1:Int))=true:=decide_eq_true qo
   have h2:((i:Int)<(n1:Int))=True:=eq_true qo;have h3:(i<n1)=True:=eq_true htn;have h4:((0:Int)<=(i:Int))=True:=eq_true qo;obtain⟨ad,rfl,-⟩:=(HA.out.below hI.out.a.below HG.out.symm).t qo;obtain⟨bd,rfl,-⟩:=(HB.out.below hI.out.a.below HG.out.symm).t qo;obtain⟨y0,y1,y2⟩:=aaQ (HA.out.below hI.out.a.below HG.out.symm).t htn;obtain⟨x0,x1,x2⟩:=aaQ (HB.out.below hI.out.a.below HG.out.symm).t htn;have HT:=qh htn;clear htn ht;go_wp2
   refine yJ wr qk qk ?_;have y0':=cL y0;have y1':=cL y1;have y2':=cL y2;have x0':=cL x0;have x1':=cL x1;have x2':=cL x2;have q1':=cL q1;have q2':=cL q2;clear y0 y1 y2 x0 x1 x2 q1 q2;repeat(go_big_quiet_step (fail))
   refine wpQuiet_nil ?_;intro _ hw';obtain⟨p,rfl⟩:=hw';go_wp2
   rw[mK (by have:=HT.out;have:=HL.out;omega)];exact⟨⟨i+1,by have:=HT.out;omega,rfl,qh (hI.out.step (p.h.mono (Nat.le_refl _)))⟩,by have:=HT.out;show n1-(((i+1:Nat):Int)).toNat<n1-((i:Nat):Int).toNat;omega⟩
  ·have h1:decide ((i:Int)<(n1:Int))=false:=decide_eq_false qo
   have BV:decide (i<n1)=false:=decide_eq_false htn;have q0:=hI.out.a.b0;have q3:=hI.out.b0;have HS:=qh (rK.calls K A0 c0 ps B0 d0 ps true wr (HA.out.below hI.out.a.below HG.out.symm).p HA.out.pc (HB.out.below hI.out.a.below HG.out.symm).p HB.out.pc uH.out);rw[H0.out]at HS
   go_wp2_with (refine HS.out.mono ?_;rintro e w3 ⟨rfl,hb⟩;refine afT.out ?_)
   refine⟨?_⟩;have vJ:=qh (hI.out.step hb.below);clear hb HS q0 q1 q2 q3;have q0:=vJ.out.a.b2;have q3:=vJ.out.b2;have HS:=qh (rL.calls K A2 c2 ss B2 d2 ss true w3 (HA.out.below vJ.out.a.below HG.out.symm).s HA.out.sc (HB.out.below vJ.out.a.below HG.out.symm).s HB.out.sc HS2.out);rw[H2.out]at HS
   go_wp2_with (refine HS.out.mono ?_;rintro e w4 ⟨rfl,hb⟩;refine afT.out ?_)
   refine⟨?_⟩;have NY:=qh (vJ.out.step hb.below);clear hb;go_wp2
   go_ret
   exact⟨rfl,by rw[HG.out];exact NY.out.a.below⟩
def apL (zs:List Int) (t:Nat) (a b c n:Int):List Int:=uR zs t a b n++[b,c,n,c,a,n]
def ayY (ps:PS) (zs:List Int) (n1:Nat) (ss:SS) (wi:Nat->Nat->Nat->Int) (br:Int) (p:bg) (t:Int):MO :=
 if qm n1 t 0=true then
  (if br=0 then
   (if wi (zs.getD (3*t.toNat) 0).toNat (zs.getD (3*t.toNat+1) 0).toNat (zs.getD (3*t.toNat+2) 0).toNat=1 then
    (0,ps++[p],apL zs t.toNat (zs.getD (3*t.toNat) 0) (zs.getD (3*t.toNat+1) 0) (zs.getD (3*t.toNat+2) 0) ps.length,n1+2,ss)
   else lT 7)
  else lT br)
 else lT 1
theorem CW {P:Program} {w:World} {ops:Array Oper} {rest:List Oper} {o:Oper} {a:Act} {Q:Exit->Act->World->Prop} (hgd:o.guard=none) (s x:Operand) (t e:TypeId)
  (ho:o.op = .call { callee := .builtin .append,args:=#[s,x],argTypes:=#[t,t] }) (z:Value) (size bytes:Nat) (ht:P.underlying t=some (.slice e)) (hinfo:(P.info? e).map (fun i=>(i.zero,i.size,i.bytes))=some (some z,size,bytes)) (hz:z.cells.size=size) (hs0:0<size)
  (v:Value) (n:Nat) (xs:List Value) (hs:a.eval s=v) (ad:Addr) (m c:Nat) (hx:a.eval x = .slice (some ad) m c) (news:List Value) {b:Nat} (hown:w.ownsRow b e size v n xs) (hb:b<=w.heap.size) (hl:news.length=m*size) (hc:∀ j u,news[j]?=some u->w.cell? (ad.add j)=some u) (h1:∀ u∈news,u.oneCell'=true) (hm:(n+m)*bytes<=140737488355328) (hm2:n+m<=maxLen)
  (h:∀ A' c' w',Hid (w'.ownsRow b e size (.slice A' (n+m) c') (n+m) (xs++news))->Hid (w.grownBy w' v.ownBlock)->wpList P ops Q rest (a.put o.dst (.slice A' (n+m) c')) w'):wpList P ops Q (o::rest) a w:=by
 obtain⟨i0,hi,hzz⟩:=Option.map_eq_some_iff.1 hinfo;simp only[Prod.mk.injEq]at hzz;obtain⟨hz0,hz1,hz2⟩:=hzz;obtain⟨v',w',hrun,h2,hg,_,hat⟩:=run_append_own_at (P:=P) w b t o.type e i0 z size bytes ht hi hz0 hz1 hz2 hz hs0 v n xs hown ad m c news hl hc h1 hm2 hm hb;refine wpList_plain hgd fun K hK=>?_;unfold Oper.wp execOp;simp only[ho,resolve,invoke,builtin,Sem.run_bind,Sem.run_pure,Result.andThen_ok,List.map_toArray,List.map_cons,List.map_nil,hs,hx,hrun];obtain⟨A',c',rfl⟩:∃ A' c',v' = .slice A' (n+m) c':=by
  rcases h2.2 with ⟨rfl,h0⟩|⟨g,cap,cur,rfl,_⟩
  ·exact⟨_,_,by rw[h0]⟩
  ·exact⟨_,_,rfl⟩
 exact hK _ _ (h A' c' w' (qh h2) (qh hg))
theorem U6 {w w':World} {b:Nat} {e:TypeId} {size n:Nat} {v:Value} {cs:List Value} (h:w.ownsRow b e size v n cs) (hg:w.grownBy w' v.ownBlock) {k:Nat} {c:Array Value} {t:TypeId} {f:Nat × Nat} (hk:w.heap[k]?=some (.cells c t f)) (hn:k<b\/t≠e):w'.heap[k]?=some (.cells c t f):=by
 refine(hg.block k (gm hk) fun he=>?_).trans hk;rcases hn with hn|hn
 ·have:=Av h k he.symm
  omega
 ·obtain⟨c',f',hc⟩:=KF h k he.symm
  rw[hk]at hc
  injection hc with hc
  injection hc with _ hc
  exact hn hc
theorem yK {w w':World} {b b':Nat} {e e':TypeId} {size size' n n':Nat} {v v':Value} {cs cs':List Value} (h:w.ownsRow b e size v n cs) (hg:w.grownBy w' v.ownBlock) (h':w.ownsRow b' e' size' v' n' cs') (hne:e'≠e):w'.ownsRow b' e' size' v' n' cs':=by
 refine yP h' hg fun k hk=>?_;obtain⟨c,f,hc⟩:=KF h k hk;exact⟨_,_,_,hc,fun he=>hne he.symm⟩
structure SI (g o b vb:Nat) (w:World) (pc y:Array Value) (x0 x1 x2:Int) (v0 v1 v2:Value) (ps:PS) (zs:List Int) (n1:Nat) (ss:SS) (W:World):Prop where
 om:OM W b v0 v1 v2 ps zs n1 ss
 bp:aO (W.heap[g+1]?=some (.cells pc 42 (0,0)))
 br:aO (W.heap[g+2]?=some (.cells fI 26 (0,0)))
 bv:aO (W.heap[vb]?=some (.cells #[.int .i64 x0,.int .i64 x1,.int .i64 x2] 61 (0,0)))
 bo:aO (W.heap[o]?=some (.cells y 26 (0,0)))
 below:Below g w W
 hb:g+2<b/\vb<b/\g+2<o/\vb<o
 hz:b<=W.heap.size
theorem atp {W:World} {o b:Nat} {y:Array Value} {v0 v1 v2:Value} {ps:PS} {zs:List Int} {n1:Nat} {ss:SS} (h:OM W b v0 v1 v2 ps zs n1 ss) (ho:W.heap[o]?=some (.cells y 26 (0,0))) (i:Nat) (u:Value):OM (W.setCell ⟨o,i,none⟩ u) b v0 v1 v2 ps zs n1 ss:=by
 have hf:∀ {e:TypeId} {size n:Nat} {v:Value} {cs:List Value},W.ownsRow b e size v n cs->26≠e->(W.setCell ⟨o,i,none⟩ u).ownsRow b e size v n cs:=by
  intro e size n v cs ho' hne;refine yP ho' (row:=some o) ⟨rfl,rfl,rfl,by simp[World.setCell],fun k _ hk=>Below.heap_setCell W _ _ k (fun e=>hk (by rw[e]))⟩ (fun k hk=>?_);cases hk;exact⟨_,_,_,ho,hne⟩
 obtain⟨⟨cs0,dm,kH⟩,ht,⟨kI,hr2,mU⟩⟩:=h;exact⟨⟨cs0,dm.jh (fun _ _ hp=>hp),hf kH qd⟩,hf ht qd,⟨kI,hr2.jh (fun _ _ hp=>hp),hf mU qd⟩⟩
theorem SI.YR {g o b vb:Nat} {w:World} {pc y:Array Value} {x0 x1 x2:Int} {v0 v1 v2 v0':Value} {ps:PS} {zs:List Int} {n1:Nat} {ss:SS} {W W':World} (h:SI g o b vb w pc y x0 x1 x2 v0 v1 v2 ps zs n1 ss W) {cs0:List Value} (ho:W.ownsRow b 42 6 v0 ps.length cs0) (hr:bz (dX.K W) 6 ps cs0) {p:bg} {c:List Value} (hp:dX.K W p c) (cC:c.length=6)
  (hO:W'.ownsRow b 42 6 v0' (ps.length+1) (cs0++c)) (hg:W.grownBy W' v0.ownBlock):SI g o b vb w pc y x0 x1 x2 v0' v1 v2 (ps++[p]) zs n1 ss W':=by
 have hs:∀ {k:Nat} {c:Array Value} {t:TypeId} {f:Nat × Nat},W.heap[k]?=some (.cells c t f)->(k<b\/t≠42)->W'.heap[k]?=some (.cells c t f):=fun hk hn=>U6 ho hg hk hn;obtain⟨-,ht,⟨kI,hr2,mU⟩⟩:=h.om;refine⟨⟨⟨cs0++c,(hr.snoc hp cC).jh (fun _ _ hp=>hp),by rw[List.length_append];exact hO⟩,yK ho hg ht qd,⟨kI,hr2.jh (fun _ _ hp=>hp),yK ho hg mU qd⟩⟩,⟨hs h.bp.out (.inl (by have:=h.hb;omega))⟩,⟨hs h.br.out (.inl (by have:=h.hb;omega))⟩,⟨hs h.bv.out (.inl (by have:=h.hb;omega))⟩,⟨hs h.bo.out (.inr qd)⟩,h.below.grown hg (Nat.le_trans (by have:=h.hb;omega) (Nat.le_of_lt (gm h.br.out))) (fun k hk=>by have:=Av ho k hk;have:=h.hb;omega),h.hb,Nat.le_trans h.hz hg.size⟩
theorem SI.M9 {g o b vb:Nat} {w:World} {pc y:Array Value} {x0 x1 x2:Int} {v0 v1 v2 v1':Value} {ps:PS} {zs l:List Int} {n1 m:Nat} {ss:SS} {W W':World} (h:SI g o b vb w pc y x0 x1 x2 v0 v1 v2 ps zs n1 ss W)
  (hO:W'.ownsRow b 61 3 v1' (n1+m) (ko zs++ko l)) (hg:W.grownBy W' v1.ownBlock):SI g o b vb w pc y x0 x1 x2 v0 v1' v2 ps (zs++l) (n1+m) ss W':=by
 have ho:=h.om.t;have hs:∀ {k:Nat} {c:Array Value} {t:TypeId} {f:Nat × Nat},W.heap[k]?=some (.cells c t f)->(k<b\/t≠61)->W'.heap[k]?=some (.cells c t f):=fun hk hn=>U6 ho hg hk hn;obtain⟨⟨cs0,dm,kH⟩,ht,⟨kI,hr2,mU⟩⟩:=h.om;refine⟨⟨⟨cs0,dm.jh (fun _ _ hp=>hp),yK ho hg kH qd⟩,by unfold ko at *;rw[List.map_append];exact hO,⟨kI,hr2.jh (fun _ _ hp=>hp),yK ho hg mU qd⟩⟩,⟨hs h.bp.out (.inl (by have:=h.hb;omega))⟩,⟨hs h.br.out (.inl (by have:=h.hb;omega))⟩,⟨hs h.bv.out (.inl (by have:=h.hb;omega))⟩,⟨hs h.bo.out (.inr qd)⟩,h.below.grown hg (Nat.le_trans (by have:=h.hb;omega) (Nat.le_of_lt (gm h.br.out))) (fun k hk=>by have:=Av ho k hk;have:=h.hb;omega),h.hb,Nat.le_trans h.hz hg.size⟩
theorem SI.ret {g o b vb:Nat} {w:World} {pc y:Array Value} {x0 x1 x2:Int} {v0 v1 v2:Value} {ps:PS} {zs:List Int} {n1:Nat} {ss:SS} {W:World} (h:SI g o b vb w pc y x0 x1 x2 v0 v1 v2 ps zs n1 ss W) (hg:w.heap.size=g) (r:Int):(((W.setCell ⟨g+2,0,none⟩ v0).setCell ⟨g+2,1,none⟩ v1).setCell ⟨g+2,2,none⟩ v2).heap[g+2]?=some (.cells #[v0,v1,v2] 26 (0,0))/\uS w (r,ps,zs,n1,ss) (.returned (.tuple #[.agg #[v0,v1,v2],.int .i64 r])) (((W.setCell ⟨g+2,0,none⟩ v0).setCell ⟨g+2,1,none⟩ v1).setCell ⟨g+2,2,none⟩ v2):=by
 have h3:=ret3 h.below h.br (show g<g+2 by omega) v0 v1 v2;exact⟨h3.1,_,_,_,rfl,h.om.ZY (by have:=h.hb;omega) (by have:=h.hb;omega) _ _ _,by rw[hg];exact h3.2⟩
end Go.Proofs.YtfcjnhkkfmgmpaaGreat
