import Derived.Test.YtfcjnhkkfmgmpaaGreatZsG27
set_option linter.all false
set_option maxRecDepth 100000
set_option maxHeartbeats 8000000
namespace Go.Proofs.YtfcjnhkkfmgmpaaGreat
open Go.RowKit aR Go.Proofs.aC.R Go.Proofs.aC.Z Go.Proofs.aD.bf
abbrev MO:=Int × PS × List Int × Nat × SS
def mH (r:Int):MO:=(r,[],[],0,[])
def wO (zs:List Int) (t:Nat) (a b c:Int):List Int:=((zs.set (t*3) a).set (t*3+1) b).set (t*3+2) c
def tT (zs:List Int) (n1:Nat) (ss:SS) (bC:Nat→Nat→Nat→Int) (a b c:Int):Option Nat :=
 match b_ zs b a (3*n1) with
 | none=>none
 | some j=>if 0≤xy ss a b∨(b_ zs c (zs.getD (3*(j / 3)+px (j%3)) 0) (3*n1)).isSome=true∨(b_ zs (zs.getD (3*(j / 3)+px (j%3)) 0) c (3*n1)).isSome=true∨¬ 0<bC (zs.getD (3*(j / 3)+px (j%3)) 0).toNat b.toNat c.toNat∨¬ 0<bC (zs.getD (3*(j / 3)+px (j%3)) 0).toNat c.toNat a.toNat then none else some j
def vk (zs:List Int) (t j:Nat) (a b c d:Int):List Int:=wO (wO zs t d b c) (j / 3) d c a
def sP (ps:PS) (zs:List Int) (n1:Nat) (ss:SS) (bC:Nat→Nat→Nat→Int) (t k:Int):MO :=
 if o8 n1 t k=true then
  (match tT zs n1 ss bC (zs.getD (3*t.toNat+k.toNat) 0) (zs.getD (3*t.toNat+nx k.toNat) 0) (zs.getD (3*t.toNat+px k.toNat) 0) with
  | none=>mH 7
  | some j=>(0,ps,vk zs t.toNat j (zs.getD (3*t.toNat+k.toNat) 0) (zs.getD (3*t.toNat+nx k.toNat) 0) (zs.getD (3*t.toNat+px k.toNat) 0) (zs.getD (3*(j / 3)+px (j%3)) 0),n1,ss))
 else mH 1
theorem akm {ps:PS} {zs:List Int} {n1:Nat} {ss:SS} {bC:Nat→Nat→Nat→Int} {t k:Int} {T j jt jk na nb nc nd:Nat} {sg:Int} {o1 o2 bb:Bool}
  (HR:sP ps zs n1 ss bC t k=match tT zs n1 ss bC na nb nc with
   | none=>mH 7
   | some j=>(0,ps,vk zs T j na nb nc (zs.getD (3*(j / 3)+px (j%3)) 0),n1,ss))
  (Hp:b_ zs nb na (3*n1)=some j) (zi:j / 3=jt) (Hq:j%3=jk) (Lt:zs.getD (3*jt+px jk) 0=nd) (HS:xy ss na nb=sg) (hq:¬ 0≤sg)
  (O1:(b_ zs (nc:Int) (nd:Int) (3*n1)).isSome=o1) (O2:(b_ zs (nd:Int) (nc:Int) (3*n1)).isSome=o2) (BQ:(o1||(o2||(!decide (0<bC nd nb nc)||!decide (0<bC nd nc na))))=bb) :
  sP ps zs n1 ss bC t k=if bb=true then mH 7 else (0,ps,vk zs T j na nb nc nd,n1,ss):=by
 have e:tT zs n1 ss bC na nb nc=if bb=true then none else some j:=by
  unfold tT;rw[Hp];simp only[zi,Hq,Lt,HS,O1,O2,Int.toNat_natCast];rw[← BQ];by_cases c3:0<bC nd nb nc <;> by_cases c4:0<bC nd nc na <;> cases o1 <;> cases o2 <;> simp[hq,c3,c4]
 rw[HR,e];cases bb with
 | true=>rfl
 | false =>
  show(0,ps,vk zs T j na nb nc (zs.getD (3*(j / 3)+px (j%3)) 0),n1,ss)=_;rw[zi,Hq,Lt];rfl
def tP (w:World) (o:MO) (e:Ending) (w':World):Prop:=∃ v0 v1 v2,e = .returned (.tuple #[.agg #[v0,v1,v2],.int .i64 o.1])∧OM w' w.heap.size v0 v1 v2 o.2.1 o.2.2.1 o.2.2.2.1 o.2.2.2.2∧Below w.heap.size w w'
theorem tP.bad (w:World) (r:Int) (w':World) (hb:Below w.heap.size w w'):tP w (mH r) (.returned (.tuple #[.agg fM,.int .i64 r])) w':=⟨_,_,_,rfl,OM.nil _ _,hb⟩
structure Stop (p:Prop):Prop where
 out:p
theorem sB {P:Program} {R:Ending→World→Prop} {fn:Func} {p u:Tmp} {ty:TypeId} {a:Act} {w:World} {g:Nat} {t:TypeId} {cs:Array Value} {fr:Nat × Nat} {d:TypeDesc} {v:Value} (h:fn.results=#[.cell p ty,.tmp u])
  (hp:a.tmps.getD p undef = .pointer (some ⟨g,0,none⟩)) (hv:a.tmps.getD u undef=v) (hg:w.heap[g]?=some (.cells cs t fr)) (hu:P.underlying ty=some d) (hd:(match d with | .struct _ | .array _ _=>true|_=>false)=true) (hi:(P.info? ty).map (·.size)=some cs.size)
  (hdf:a.defers=[]) (hR:R (.returned (.tuple #[.agg cs,v])) w):bodyPost P fn R .ret a w :=
 bodyPost_ret (hv ▸ qZ h a.tmps w g t cs fr d hp hg hu hd hi) hdf hR
theorem ret3 {g r:Nat} {w:World} {x0 x1 x2:Value} {W:World} (hb:Below g w W) (hr:aM (W.heap[r]?=some (.cells #[x0,x1,x2] 26 (0,0)))) (h1:g<r) (a b c:Value) :
  (((W.setCell ⟨r,0,none⟩ a).setCell ⟨r,1,none⟩ b).setCell ⟨r,2,none⟩ c).heap[r]?=some (.cells #[a,b,c] 26 (0,0))∧Below g w (((W.setCell ⟨r,0,none⟩ a).setCell ⟨r,1,none⟩ b).setCell ⟨r,2,none⟩ c) :=
 ⟨su (su (su hr.out 0 a) 1 b) 2 c,((hb.setCell (p:=⟨r,0,none⟩) (Nat.le_of_lt h1) a).setCell (p:=⟨r,1,none⟩) (Nat.le_of_lt h1) b).setCell (p:=⟨r,2,none⟩) (Nat.le_of_lt h1) c⟩
structure FI (g kb B:Nat) (w:World) (A0 A1 A2:Option Addr) (n0 c0 n1 c1 n2 c2:Nat) (zs:List Int) (W:World):Prop where
 box:MB g w A0 A1 A2 n0 c0 n1 c1 n2 c2 W
 br:aM (W.heap[g+1]?=some (.cells fM 26 (0,0)))
 m:SMap W B zs (3*n1)
 k1:W.cell? ⟨kb,1,none⟩=some (.slice A1 n1 c1)
 k3:W.cell? ⟨kb,3,none⟩=some (.map (some B))
theorem FI.step {g kb B:Nat} {w:World} {A0 A1 A2:Option Addr} {n0 c0 n1 c1 n2 c2:Nat} {zs:List Int} {W W':World} (h:FI g kb B w A0 A1 A2 n0 c0 n1 c1 n2 c2 zs W) (hb:Below W.heap.size W W'):FI g kb B w A0 A1 A2 n0 c0 n1 c1 n2 c2 zs W' :=
 ⟨h.box.step hb,⟨eA h.br.out hb⟩,h.m.below hb h.m.lt,(hb.cell (ql h.k1)).trans h.k1,(hb.cell (ql h.k3)).trans h.k3⟩
theorem Yh {W:World} {b g1 n cap sz:Nat} {e:TypeId} {cs:List Value} (h:W.ownsRow b e sz (.slice (some ⟨g1,0,none⟩) n cap) n cs) {i:Nat} (hi:i<n*sz) (u:Value):(W.setCell ⟨g1,i,none⟩ u).ownsRow b e sz (.slice (some ⟨g1,0,none⟩) n cap) n (cs.set i u):=by
 refine⟨by rw[List.length_set];exact h.1,?_⟩;rcases h.2 with ⟨h1,-⟩|⟨g,cap',cur,he,hb,hh,h1,h2,h3,h4⟩
 ·cases h1
 ·injection he with e1 e2 e3
  injection e1 with e1
  injection e1 with e1 _ _
  subst e1 e3;refine .inr ⟨g1,cap,cur.setIfInBounds i u,rfl,hb,su hh i u,h1,h2,by rw[Array.size_setIfInBounds];exact h3,?_⟩;rw[Array.toList_setIfInBounds,List.take_set,h4]
structure TI (g o b:Nat) (w:World) (v0 v2:Value) (g1 k1:Nat) (ps:PS) (zs:List Int) (n1:Nat) (ss:SS) (W:World):Prop where
 om:OM W b v0 (.slice (some ⟨g1,0,none⟩) n1 k1) v2 ps zs n1 ss
 br:aM (W.heap[g+1]?=some (.cells fM 26 (0,0)))
 bo:aM (W.heap[o]?=some (.cells #[v0,.slice (some ⟨g1,0,none⟩) n1 k1,v2] 26 (0,0)))
 below:Below g w W
 hb:g≤b
theorem TI.g1 {g o b:Nat} {w:World} {v0 v2:Value} {g1 k1:Nat} {ps:PS} {zs:List Int} {n1:Nat} {ss:SS} {W:World} (h:TI g o b w v0 v2 g1 k1 ps zs n1 ss W):b≤g1∧∃ c,W.heap[g1]?=some (.cells c 61 (0,0))∧n1*3≤c.size:=by
 rcases h.om.t.2 with ⟨h1,-⟩|⟨g,cap',cur,he,hb,hh,h1,h2,h3,h4⟩
 ·cases h1
 ·injection he with e1 e2 e3
  injection e1 with e1
  injection e1 with e1 _ _
  subst e1 e3;exact⟨hb,cur,hh,by rw[h3];exact Nat.mul_le_mul_right _ h1⟩
theorem OM.blk {W:World} {b:Nat} {v0 v1 v2:Value} {ps:PS} {zs:List Int} {n1:Nat} {ss:SS} (h:OM W b v0 v1 v2 ps zs n1 ss) (h0:0<n1):∃ g1 k1,v1 = .slice (some ⟨g1,0,none⟩) n1 k1:=by
 rcases h.t.2 with ⟨-,h1⟩|⟨g,cap',cur,he,-⟩
 ·omega
 ·exact⟨g,cap',he⟩
theorem OM.st3 {W:World} {b b':Nat} {v0 v1 v2:Value} {ps:PS} {zs:List Int} {n1:Nat} {ss:SS} (h:OM W b v0 v1 v2 ps zs n1 ss) {r:Nat} (hr:r<b) (hb:b'≤b) (x y z:Value):OM (((W.setCell ⟨r,0,none⟩ x).setCell ⟨r,1,none⟩ y).setCell ⟨r,2,none⟩ z) b' v0 v1 v2 ps zs n1 ss:=by
 obtain⟨⟨cs0,dL,lZ⟩,ht,⟨lK,hr2,o9⟩⟩:=h;exact⟨⟨cs0,dL.j4 (fun _ _ hp=>hp),sk (xK lZ hr x y z) hb⟩,sk (xK ht hr x y z) hb,⟨lK,hr2.j4 (fun _ _ hp=>hp),sk (xK o9 hr x y z) hb⟩⟩
theorem FR {W:World} {p q:Nat} {c d:Array Value} {s t:TypeId} {f f':Nat × Nat} (h:W.heap[p]?=some (.cells c s f)) (h':W.heap[q]?=some (.cells d t f')) (hn:s≠t):p≠q:=by
 rintro rfl;rw[h]at h'
 injection h' with h'
 injection h' with _ h'
 exact hn h'
theorem TI.A_ {g o b:Nat} {w:World} {v0 v2:Value} {g1 k1:Nat} {ps:PS} {zs:List Int} {n1:Nat} {ss:SS} {W:World} (h:TI g o b w v0 v2 g1 k1 ps zs n1 ss W) {i:Nat} (hi:i<n1*3) (x:Int):TI g o b w v0 v2 g1 k1 ps (zs.set i x) n1 ss (W.setCell ⟨g1,i,none⟩ (.int .i64 x)):=by
 obtain⟨hb,c,hc,-⟩:=h.g1;have hf:∀ {e:TypeId} {size n:Nat} {v:Value} {cs:List Value},W.ownsRow b e size v n cs→61≠e→(W.setCell ⟨g1,i,none⟩ (.int .i64 x)).ownsRow b e size v n cs:=by
  intro e size n v cs ho hne;refine wJ ho (row:=some g1) ⟨rfl,rfl,rfl,by simp[World.setCell],fun k _ hk=>Below.heap_setCell W _ _ k (fun e=>hk (by rw[e]))⟩ (fun k hk=>?_);cases hk;exact⟨_,_,_,hc,hne⟩
 obtain⟨⟨cs0,dL,lZ⟩,ht,⟨lK,hr2,o9⟩⟩:=h.om;refine⟨⟨⟨cs0,dL.j4 (fun _ _ hp=>hp),hf lZ (by decide)⟩,?_,⟨lK,hr2.j4 (fun _ _ hp=>hp),hf o9 (by decide)⟩⟩,⟨Go.Proofs.aD.bf.dz h.br.out (p:=⟨g1,i,none⟩) (Ne.symm (FR hc h.br.out (by decide))) _⟩,⟨Go.Proofs.aD.bf.dz h.bo.out (p:=⟨g1,i,none⟩) (Ne.symm (FR hc h.bo.out (by decide))) _⟩,h.below.setCell (Nat.le_trans h.hb hb) _,h.hb⟩;have:=Yh ht hi (.int .i64 x);unfold mh at this ⊢;rw[List.map_set];exact this
theorem TI.OO {g o b:Nat} {w:World} {v0 v2:Value} {g1 k1:Nat} {ps:PS} {zs:List Int} {n1:Nat} {ss:SS} {W:World} (h:TI g o b w v0 v2 g1 k1 ps zs n1 ss W) {t:Nat} (ht:t<n1) (x y z:Int):TI g o b w v0 v2 g1 k1 ps (wO zs t x y z) n1 ss (((W.setCell ⟨g1,t*3,none⟩ (.int .i64 x)).setCell ⟨g1,t*3+1,none⟩ (.int .i64 y)).setCell ⟨g1,t*3+2,none⟩ (.int .i64 z)) :=
 ((h.A_ (by omega) x).A_ (by omega) y).A_ (by omega) z
theorem TI.dr {g o b:Nat} {w:World} {v0 v2:Value} {g1 k1:Nat} {ps:PS} {zs:List Int} {n1:Nat} {ss:SS} {W:World} (h:TI g o b w v0 v2 g1 k1 ps zs n1 ss W):TI g o b w v0 v2 g1 k1 ps zs n1 ss W.drew:=by
 obtain⟨⟨⟨cs0,dL,lZ⟩,ht,⟨lK,hr2,o9⟩⟩,hbr,Lu,hbl,hb⟩:=h;exact⟨⟨⟨cs0,dL.j4 (fun _ _ hp=>hp),lZ⟩,ht,⟨lK,hr2.j4 (fun _ _ hp=>hp),o9⟩⟩,hbr,Lu,hbl.drew,hb⟩
theorem TI.cells {g o b:Nat} {w:World} {v0 v2:Value} {g1 k1:Nat} {ps:PS} {zs:List Int} {n1:Nat} {ss:SS} {W:World} (h:TI g o b w v0 v2 g1 k1 ps zs n1 ss W) {t:Nat} (ht:t<n1) :
  ∃ u0 u1 u2,W.cell? ⟨g1,t*3,none⟩=some u0∧W.cell? ⟨g1,t*3+1,none⟩=some u1∧W.cell? ⟨g1,t*3+2,none⟩=some u2∧W.frozen? ⟨g1,t*3,none⟩=false∧W.frozen? ⟨g1,t*3+1,none⟩=false∧W.frozen? ⟨g1,t*3+2,none⟩=false:=by
 obtain⟨hb,c,hc,hs⟩:=h.g1;refine⟨c[t*3]'(by omega),c[t*3+1]'(by omega),c[t*3+2]'(by omega),?_,?_,?_,cF hc _,cF hc _,cF hc _⟩;all_goals rw[gP hc];exact Array.getElem?_eq_getElem _
theorem akn {n0 n1:Nat} {zs:List Int} {ss:SS} {bC:Nat→Nat→Nat→Int} (hM:r_ n0 zs n1 ss bC) (hD:∀ i j k,0<bC i j k→i≠j∧j≠k∧k≠i) {T k j:Nat} (hT:T<n1) (hk:k≤2) (hf:b_ zs (zs.getD (3*T+nx k) 0) (zs.getD (3*T+k) 0) (3*n1)=some j):T≠j / 3:=by
 rintro rfl;obtain⟨hj,⟨e1,e2⟩,-⟩:=Iu hf;have hc:=hM.c (j / 3) hT;unfold uT at hc;rw[Bool.and_eq_true,decide_eq_true_eq,decide_eq_true_eq]at hc
 obtain⟨⟨r0,r1,r2⟩,ho⟩:=hc;obtain⟨d1,d2,d3⟩:=hD _ _ _ ho;unfold ig at r0 r1 r2;have hjk:j=3*(j / 3)+j%3:=by omega
 generalize hq:j%3=q at *;generalize j / 3=T at *;subst hjk;have xh:q=0∨q=1∨q=2:=by omega
 have hk3:k=0∨k=1∨k=2:=by omega
 rcases xh with rfl|rfl|rfl <;> rcases hk3 with rfl|rfl|rfl <;> simp only[show nx 0=1 from rfl,show nx 1=2 from rfl,show nx 2=0 from rfl,Nat.add_zero]at e1 e2 <;> omega
def bv (n:Nat):ByteArray:=if n=0 then ⟨#[]⟩ else ⟨#[UInt8.ofNat n]⟩
def BU (x y:Nat):aX:=⟨⟨⟨false,bv x⟩,bv 1⟩,⟨⟨false,bv y⟩,bv 1⟩⟩
def ps2:PS:=[BU 0 0,BU 2 0,BU 2 2,BU 0 2]
def zs2:List Int:=[0,1,2,0,2,3]
theorem aou:uB.f 0 0=some (false,⟨#[]⟩,⟨#[1]⟩,false,⟨#[]⟩,⟨#[1]⟩):=by decide +kernel
theorem aov:uB.f 2 0=some (false,⟨#[2]⟩,⟨#[1]⟩,false,⟨#[]⟩,⟨#[1]⟩):=by decide +kernel
theorem aow:uB.f 2 2=some (false,⟨#[2]⟩,⟨#[1]⟩,false,⟨#[2]⟩,⟨#[1]⟩):=by decide +kernel
theorem aox:uB.f 0 2=some (false,⟨#[]⟩,⟨#[1]⟩,false,⟨#[2]⟩,⟨#[1]⟩):=by decide +kernel
structure TW (g:Nat) (w W:World):Prop where
 below:Below g w W
 br:aM (W.heap[g]?=some (.cells fM 26 (0,0)))
theorem TW.step {g:Nat} {w W W':World} (h:TW g w W) (hb:Below W.heap.size W W'):TW g w W':=⟨h.below.trans (hb.mono (Nat.le_of_lt (fJ h.br.out))),⟨eA h.br.out hb⟩⟩
theorem aoy (w:World) :
  Calls Tryz.prog 23 #[] w fun e w'=>∃ v0 v1,e = .returned (.agg #[v0,v1,.slice none 0 0])∧OM w' w.heap.size v0 v1 (.slice none 0 0) ps2 zs2 2 []∧Below w.heap.size w w':=by
 have HX:=qh (show TW w.heap.size w (w.alloc (.cells fM 26)) from ⟨(Below.refl _ _).alloc (Nat.le_refl _) _,⟨jq _ _⟩⟩);have xq:=qh (fun W=>uB.calls 0 0 _ _ _ _ _ _ W aou);have xx:=qh (fun W=>uB.calls 2 0 _ _ _ _ _ _ W aov);have qO:=qh (fun W=>uB.calls 2 2 _ _ _ _ _ _ W aow);have nS:=qh (fun W=>uB.calls 0 2 _ _ _ _ _ _ W aox);obtain⟨g,hg⟩:∃ g,w.heap.size=g:=⟨_,rfl⟩
 have HG:=qh hg;rw[hg]at HX
 go_enter Tryz.func23,Tryz.ntmps23
 go_wp2_with (first
  | (with_reducible refine(xq.out _).mono ?_;rintro e w1 ⟨rfl,hb⟩;have l6:=qh (HX.out.step hb);clear hb)
  | (with_reducible refine(xx.out _).mono ?_;rintro e w2 ⟨rfl,hb⟩;have vO:=qh (l6.out.step hb);clear hb)
  | (with_reducible refine(qO.out _).mono ?_;rintro e w3 ⟨rfl,hb⟩;have HX3:=qh (vO.out.step hb);clear hb)
  | (with_reducible refine(nS.out _).mono ?_;rintro e w4 ⟨rfl,hb⟩;have PJ:=qh (HX3.out.step hb);clear hb;refine Stop.out ?_)
  | fail)
 refine⟨?_⟩;obtain⟨b0,b1,b2,b3,b4,b5⟩:=z3 PJ.out.br;have hlt:=fJ PJ.out.br.out;have n1:¬ g=w4.heap.size:=by omega
 have n2:¬ w4.heap.size=g:=by omega
 have n3:¬ g=w4.heap.size+1:=by omega
 have n4:¬ w4.heap.size+1=g:=by omega
 have n5:(g<w4.heap.size)=True:=eq_true hlt;have n6:(g<w4.heap.size+1)=True:=eq_true (by omega);have O5:(((w4.setCell ⟨g,0,none⟩ (.slice (some ⟨w4.heap.size,0,none⟩) 4 4)).setCell ⟨g,1,none⟩ (.slice (some ⟨w4.heap.size+1,0,none⟩) 2 2)).setCell ⟨g,2,none⟩ (.slice none 0 0)).heap.size=w4.heap.size:=by simp
 have kQ:(((w4.setCell ⟨g,0,none⟩ (.slice (some ⟨w4.heap.size,0,none⟩) 4 4)).setCell ⟨g,1,none⟩ (.slice (some ⟨w4.heap.size+1,0,none⟩) 2 2)).setCell ⟨g,2,none⟩ (.slice none 0 0)).heap[g]?=some (.cells #[.slice (some ⟨w4.heap.size,0,none⟩) 4 4,.slice (some ⟨w4.heap.size+1,0,none⟩) 2 2,.slice none 0 0] 26 (0,0)):=su (su (su PJ.out.br.out 0 _) 1 _) 2 _;have cH:Below g w (((w4.setCell ⟨g,0,none⟩ (.slice (some ⟨w4.heap.size,0,none⟩) 4 4)).setCell ⟨g,1,none⟩ (.slice (some ⟨w4.heap.size+1,0,none⟩) 2 2)).setCell ⟨g,2,none⟩ (.slice none 0 0)):=((PJ.out.below.setCell (p:=⟨g,0,none⟩) (Nat.le_refl _) _).setCell (p:=⟨g,1,none⟩) (Nat.le_refl _) _).setCell (p:=⟨g,2,none⟩) (Nat.le_refl _) _;have hp6:(((((w4.setCell ⟨g,0,none⟩ (.slice (some ⟨w4.heap.size,0,none⟩) 4 4)).setCell ⟨g,1,none⟩ (.slice (some ⟨w4.heap.size+1,0,none⟩) 2 2)).setCell ⟨g,2,none⟩ (.slice none 0 0)).alloc (.cells #[.bool false,.string ⟨#[]⟩,.string ⟨#[1]⟩,.bool false,.string ⟨#[]⟩,.string ⟨#[1]⟩,.bool false,.string ⟨#[2]⟩,.string ⟨#[1]⟩,.bool false,.string ⟨#[]⟩,.string ⟨#[1]⟩,.bool false,.string ⟨#[2]⟩,.string ⟨#[1]⟩,.bool false,.string ⟨#[2]⟩,.string ⟨#[1]⟩,.bool false,.string ⟨#[]⟩,.string ⟨#[1]⟩,.bool false,.string ⟨#[2]⟩,.string ⟨#[1]⟩] 42)).alloc (.cells #[.int .i64 0,.int .i64 1,.int .i64 2,.int .i64 0,.int .i64 2,.int .i64 3] 61)).heap[w4.heap.size]?=some (.cells #[.bool false,.string ⟨#[]⟩,.string ⟨#[1]⟩,.bool false,.string ⟨#[]⟩,.string ⟨#[1]⟩,.bool false,.string ⟨#[2]⟩,.string ⟨#[1]⟩,.bool false,.string ⟨#[]⟩,.string ⟨#[1]⟩,.bool false,.string ⟨#[2]⟩,.string ⟨#[1]⟩,.bool false,.string ⟨#[2]⟩,.string ⟨#[1]⟩,.bool false,.string ⟨#[]⟩,.string ⟨#[1]⟩,.bool false,.string ⟨#[2]⟩,.string ⟨#[1]⟩] 42 (0,0)):=aF (Na O5) _;have K2:(((((w4.setCell ⟨g,0,none⟩ (.slice (some ⟨w4.heap.size,0,none⟩) 4 4)).setCell ⟨g,1,none⟩ (.slice (some ⟨w4.heap.size+1,0,none⟩) 2 2)).setCell ⟨g,2,none⟩ (.slice none 0 0)).alloc (.cells #[.bool false,.string ⟨#[]⟩,.string ⟨#[1]⟩,.bool false,.string ⟨#[]⟩,.string ⟨#[1]⟩,.bool false,.string ⟨#[2]⟩,.string ⟨#[1]⟩,.bool false,.string ⟨#[]⟩,.string ⟨#[1]⟩,.bool false,.string ⟨#[2]⟩,.string ⟨#[1]⟩,.bool false,.string ⟨#[2]⟩,.string ⟨#[1]⟩,.bool false,.string ⟨#[]⟩,.string ⟨#[1]⟩,.bool false,.string ⟨#[2]⟩,.string ⟨#[1]⟩] 42)).alloc (.cells #[.int .i64 0,.int .i64 1,.int .i64 2,.int .i64 0,.int .i64 2,.int .i64 3] 61)).heap[w4.heap.size+1]?=some (.cells #[.int .i64 0,.int .i64 1,.int .i64 2,.int .i64 0,.int .i64 2,.int .i64 3] 61 (0,0)):=Na (by simp);have Ei:=aF (aF kQ (.cells #[.bool false,.string ⟨#[]⟩,.string ⟨#[1]⟩,.bool false,.string ⟨#[]⟩,.string ⟨#[1]⟩,.bool false,.string ⟨#[2]⟩,.string ⟨#[1]⟩,.bool false,.string ⟨#[]⟩,.string ⟨#[1]⟩,.bool false,.string ⟨#[2]⟩,.string ⟨#[1]⟩,.bool false,.string ⟨#[2]⟩,.string ⟨#[1]⟩,.bool false,.string ⟨#[]⟩,.string ⟨#[1]⟩,.bool false,.string ⟨#[2]⟩,.string ⟨#[1]⟩] 42)) (.cells #[.int .i64 0,.int .i64 1,.int .i64 2,.int .i64 0,.int .i64 2,.int .i64 3] 61);have kP:=(cH.alloc (by rw[O5];omega) (.cells #[.bool false,.string ⟨#[]⟩,.string ⟨#[1]⟩,.bool false,.string ⟨#[]⟩,.string ⟨#[1]⟩,.bool false,.string ⟨#[2]⟩,.string ⟨#[1]⟩,.bool false,.string ⟨#[]⟩,.string ⟨#[1]⟩,.bool false,.string ⟨#[2]⟩,.string ⟨#[1]⟩,.bool false,.string ⟨#[2]⟩,.string ⟨#[1]⟩,.bool false,.string ⟨#[]⟩,.string ⟨#[1]⟩,.bool false,.string ⟨#[2]⟩,.string ⟨#[1]⟩] 42)).alloc (by simp;omega) (.cells #[.int .i64 0,.int .i64 1,.int .i64 2,.int .i64 0,.int .i64 2,.int .i64 3] 61);have HR:=qh Ei
 have aed:=qh (show OM (((((w4.setCell ⟨g,0,none⟩ (.slice (some ⟨w4.heap.size,0,none⟩) 4 4)).setCell ⟨g,1,none⟩ (.slice (some ⟨w4.heap.size+1,0,none⟩) 2 2)).setCell ⟨g,2,none⟩ (.slice none 0 0)).alloc (.cells #[.bool false,.string ⟨#[]⟩,.string ⟨#[1]⟩,.bool false,.string ⟨#[]⟩,.string ⟨#[1]⟩,.bool false,.string ⟨#[2]⟩,.string ⟨#[1]⟩,.bool false,.string ⟨#[]⟩,.string ⟨#[1]⟩,.bool false,.string ⟨#[2]⟩,.string ⟨#[1]⟩,.bool false,.string ⟨#[2]⟩,.string ⟨#[1]⟩,.bool false,.string ⟨#[]⟩,.string ⟨#[1]⟩,.bool false,.string ⟨#[2]⟩,.string ⟨#[1]⟩] 42)).alloc (.cells #[.int .i64 0,.int .i64 1,.int .i64 2,.int .i64 0,.int .i64 2,.int .i64 3] 61)) w.heap.size (.slice (some ⟨w4.heap.size,0,none⟩) 4 4) (.slice (some ⟨w4.heap.size+1,0,none⟩) 2 2) (.slice none 0 0) ps2 zs2 2 []∧Below w.heap.size w (((((w4.setCell ⟨g,0,none⟩ (.slice (some ⟨w4.heap.size,0,none⟩) 4 4)).setCell ⟨g,1,none⟩ (.slice (some ⟨w4.heap.size+1,0,none⟩) 2 2)).setCell ⟨g,2,none⟩ (.slice none 0 0)).alloc (.cells #[.bool false,.string ⟨#[]⟩,.string ⟨#[1]⟩,.bool false,.string ⟨#[]⟩,.string ⟨#[1]⟩,.bool false,.string ⟨#[2]⟩,.string ⟨#[1]⟩,.bool false,.string ⟨#[]⟩,.string ⟨#[1]⟩,.bool false,.string ⟨#[2]⟩,.string ⟨#[1]⟩,.bool false,.string ⟨#[2]⟩,.string ⟨#[1]⟩,.bool false,.string ⟨#[]⟩,.string ⟨#[1]⟩,.bool false,.string ⟨#[2]⟩,.string ⟨#[1]⟩] 42)).alloc (.cells #[.int .i64 0,.int .i64 1,.int .i64 2,.int .i64 0,.int .i64 2,.int .i64 3] 61)) from
  ⟨⟨⟨_,((((bk.none _ _).snoc (wL _ (BU 0 0)) rfl).snoc (wL _ (BU 2 0)) rfl).snoc (wL _ (BU 2 2)) rfl).snoc (wL _ (BU 0 2)) rfl,IW (n:=4) hp6 rfl (by rw[hg];omega) (by omega)⟩,IW (n:=2) K2 rfl (by rw[hg];omega) (by omega),⟨[],bk.none _ _,World.ownsRow_nil _ _ _ _⟩⟩,by rw[hg];exact kP⟩)
 clear O5 kQ cH hp6 K2 Ei kP HX l6 vO HX3 xq xx qO nS;go_wp2_with (refine bodyPost_ret (results_cell_row rfl _ _ g 26 #[.slice (some ⟨w4.heap.size,0,none⟩) 4 4,.slice (some ⟨w4.heap.size+1,0,none⟩) 2 2,.slice none 0 0] (0,0) _ rfl HR.out Tryz.underlying26 rfl (by kernel_rfl)) rfl ?_;exact⟨_,_,rfl,aed.out.1,aed.out.2⟩)
end Go.Proofs.YtfcjnhkkfmgmpaaGreat
