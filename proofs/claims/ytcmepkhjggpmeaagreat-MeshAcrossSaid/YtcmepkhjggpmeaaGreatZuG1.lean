import Derived.ArgAppend
import Derived.Below
import Derived.BigQuiet
import Derived.ChangeSlices
import Derived.Deep.AppendLies
import Derived.Deep.CutBlock
import Derived.Deep.DeepCutAuto
import Derived.Deep.Draws
import Derived.Deep.LoopGhost
import Derived.Deep.OwnRows
import Derived.Deep.QuietTactic
import Derived.Deep.RegionHeld3
import Derived.KernelRfl
import Derived.Laws.BitsLemmas
import Derived.Laws.BytesArg
import Derived.Laws.IdiomCopy
import Derived.Laws.MakeOwn
import Derived.Laws.OwnMore
import Derived.Laws.Rows
import Derived.Laws.Slices
import Derived.Laws.StructEq
import Derived.Lib.AppendStr
import Derived.Lib.ConvBytes
import Derived.Maps.AppendAt
import Derived.OrdersHeld
import Derived.OwnWalk
import Derived.RowKit
import Derived.RowKit3
import Derived.SizedLaws
import Derived.Tactics
import Derived.WalkKit
import Derived.WideLaws
set_option linter.all false
set_option maxRecDepth 100000
set_option maxHeartbeats 8000000
namespace Go.Proofs.aD.aY
open Go.RowKit
structure aO (p:Prop):Prop where mk::(out:p)
structure jr (w w':World):Prop where mk::(out:∃ n,w'=w.drewN n)
theorem jr.refl (w:World):jr w w:=⟨⟨0,rfl⟩⟩
theorem jr.step {w w':World} (h:jr w w') (n:Nat):jr w (w'.drewN n):=by
 obtain⟨m,rfl⟩:=h;exact⟨⟨m+n,World.drewN_drewN ..⟩⟩
theorem jr.grown {w w':World} (h:jr w w'):Grown w w':=by
 obtain⟨n,rfl⟩:=h;induction n with
 | zero=>exact Grown.refl _
 | succ n ih=>rw[<- World.drew_drewN];exact Grown.drew ih
theorem jr.below {w w':World} (h:jr w w'):Below w.heap.size w w':=by
 obtain⟨n,rfl⟩:=h;induction n with
 | zero=>exact Below.refl _ _
 | succ n ih=>rw[<- World.drew_drewN];exact ih.drew
def bt (s:ByteArray) (i:Int):Int:=if h:i.toNat<s.size then ((s[i.toNat]'h).toNat:Int) else 0
theorem ym {w W:World} (h:Below w.heap.size w W) (o:Obj):Below w.heap.size w (W.alloc o):=h.alloc h.size o
theorem Xw {B:Nat} {w W:World} (h:Below B w W):Below B w W.drew:=⟨h.os,h.tape,h.output,h.size,h.block⟩
theorem ID {B:Nat} {w W:World} (h:Below B w W) (n:Nat):Below B w (W.drewN n):=⟨h.os,h.tape,h.output,h.size,h.block⟩
theorem afw {B:Nat} {w w1 w2:World} (h:Below B w w1) (hB:B<=w1.heap.size) (k:Below w1.heap.size w1 w2):Below B w w2 :=
 h.trans ⟨k.os,k.tape,k.output,k.size,fun i hi=>k.block i (Nat.lt_of_lt_of_le hi hB)⟩
theorem afh {w w1:World} (h:Below w.heap.size w w1) (row:Option Nat):w.grownBy w1 row:=⟨h.os,h.tape,h.output,h.size,fun i hi _=>h.block i hi⟩
theorem Qi {w w1:World} (h:Below w.heap.size w w1) {a:Addr} {v:Value} (hc:w.cell? a=some v):w1.cell? a=some v:=(h.cell (World.block_lt_of_cell? w a hc)).trans hc
def vH (w:World) (k:IntKind) (A:Option Addr) (n:Nat) (xs:List Int):Prop :=
 xs.length=n/\n<=9223372036854775807/\(0<n->∃ ad,A=some ad/\∀ j,j<n->w.cell? (ad.add j)=some (.int k (xs.getD j 0)))
theorem vH.below {w w1:World} {k:IntKind} {A:Option Addr} {n:Nat} {xs:List Int} (h:vH w k A n xs) (hb:Below w.heap.size w w1):vH w1 k A n xs :=
 ⟨h.1,h.2.1,fun hn=>by
  obtain⟨ad,e,hc⟩:=h.2.2 hn
  exact⟨ad,e,fun j hj=>Qi hb (hc j hj)⟩⟩
theorem Ba {w:World} {base:Nat} {e:TypeId} {size n:Nat} {v:Value} {xs:List Value} (h:w.ownsRow base e size v n xs) (k:Nat) (hk:v.ownBlock=some k):base<=k:=by
 rcases h.2 with ⟨rfl,_⟩|⟨g,cap,cur,rfl,hb,_⟩
 ·simp[Value.ownBlock]at hk
 ·have:g=k:=by simpa [Value.ownBlock] using hk
  omega
theorem alP {w:World} {base:Nat} {e:TypeId} {size n:Nat} {v:Value} {xs:List Value} (h:w.ownsRow base e size v n xs) (k:Nat) (hk:v.ownBlock=some k):k<w.heap.size:=by
 rcases h.2 with ⟨rfl,_⟩|⟨g,cap,cur,rfl,hb,hh,_⟩
 ·simp[Value.ownBlock]at hk
 ·have:g=k:=by simpa [Value.ownBlock] using hk
  subst this;exact(Array.getElem?_eq_some_iff.1 hh).1
theorem td {w w1:World} {base:Nat} {e:TypeId} {size n:Nat} {v:Value} {xs:List Value} (h:w.ownsRow base e size v n xs) (hb:Below w.heap.size w w1):w1.ownsRow base e size v n xs :=
 h.kept (afh hb none) (by cases v.ownBlock <;> simp)
theorem vH.DU {w:World} {k:IntKind} {A:Option Addr} {n:Nat} {xs:List Int} (h:vH w k A n xs) (i:Nat) (hi:i<=n):vH w k A i (xs.take i):=by
 refine⟨by rw[List.length_take,h.1];omega,by have:=h.2.1;omega,fun hp=>?_⟩;obtain⟨ad,e,hc⟩:=h.2.2 (by omega);refine⟨ad,e,fun j hj=>?_⟩;rw[hc j (by omega)];simp[List.getD_eq_getElem?_getD,hj]
def nV {α:Type} (a b:Option α):Prop:=∀ r,a=some r->b=some r
theorem nV.refl {α:Type} (a:Option α):nV a a:=fun _ h=>h
theorem nV.none {α:Type} (b:Option α):nV Option.none b:=fun _ h=>by cases h
theorem nV.trans {α:Type} {a b c:Option α} (h:nV a b) (k:nV b c):nV a c:=fun r hr=>k r (h r hr)
theorem nV.bind {α β:Type} {a a':Option α} {f f':α->Option β} (h:nV a a') (k:∀ x,nV (f x) (f' x)):nV (a.bind f) (a'.bind f'):=by
 intro r hr;obtain⟨x,hx,hf⟩:=Option.bind_eq_some_iff.1 hr;exact Option.bind_eq_some_iff.2 ⟨x,h x hx,k x r hf⟩
theorem nV.map {α β:Type} {a a':Option α} (f:α->β) (h:nV a a'):nV (a.map f) (a'.map f):=by
 intro r hr;obtain⟨x,hx,hf⟩:=Option.map_eq_some_iff.1 hr;exact Option.map_eq_some_iff.2 ⟨x,h x hx,hf⟩
theorem Xr {α:Type} {g:Nat->Option α} (h:∀ k,nV (g k) (g (k+1))) (k:Nat):∀ j,nV (g k) (g (k+j))
 | 0=>nV.refl _
 | j+1=>(Xr h k j).trans (h (k+j))
theorem afN {α:Type} {g:Nat->Option α} (h:∀ k,nV (g k) (g (k+1))) {k k':Nat} (hk:k<=k') {r:α} (hr:g k=some r):g k'=some r:=by
 have:=Xr h k (k'-k) r hr;rwa [Nat.add_sub_cancel' hk]at this
def bp {α:Type} (R:α->List Value->Prop) (size:Nat) (ps:List α) (cs:List Value):Prop :=
 cs.length=ps.length*size/\∀ j p,ps[j]?=some p->R p ((cs.drop (j*size)).take size)
theorem bp.none {α:Type} (R:α->List Value->Prop) (size:Nat):bp R size [] []:=⟨by simp,fun j p h=>by simp at h⟩
theorem bp.snoc {α:Type} {R:α->List Value->Prop} {size:Nat} {ps:List α} {cs c:List Value} {p:α} (h:bp R size ps cs) (hp:R p c) (hc:c.length=size):bp R size (ps++[p]) (cs++c):=by
 refine⟨by rw[List.length_append,h.1,hc,List.length_append,List.length_singleton,Nat.add_mul,Nat.one_mul],fun j q hq=>?_⟩;rcases Nat.lt_or_ge j ps.length with hj|hj
 ·rw[List.getElem?_append_left hj]at hq
  have h1:j*size+size<=cs.length:=by rw[h.1,<- Nat.succ_mul];exact Nat.mul_le_mul_right _ hj
  have h2:=h.2 j q hq;rw[List.drop_append_of_le_length (by omega),List.take_append_of_le_length (by rw[List.length_drop];omega)];exact h2
 ·have hj':j=ps.length:=by
   have:=(List.getElem?_eq_some_iff.1 hq).1;rw[List.length_append,List.length_singleton]at this
   omega
  subst hj';have hq':p=q:=by simpa using hq
  subst hq';rw[<- h.1,List.drop_left,<- hc,List.take_length];exact hp
theorem bp.nQ {α:Type} {R R':α->List Value->Prop} {size:Nat} {ps:List α} {cs:List Value} (h:bp R size ps cs) (hR:∀ p c,R p c->R' p c):bp R' size ps cs:=⟨h.1,fun j p hj=>hR _ _ (h.2 j p hj)⟩
def vI {α:Type} (R:α->List Value->Prop) (size:Nat) (w:World) (A:Option Addr) (n:Nat) (ps:List α):Prop :=
 ps.length=n/\n<=9223372036854775807/\(0<n->∃ ad,A=some ad/\∀ j p,ps[j]?=some p->∃ c,c.length=size/\R p c/\∀ i u,c[i]?=some u->w.cell? (ad.add (j*size+i))=some u)
theorem vI.ap6 {α:Type} {R:α->List Value->Prop} {size:Nat} {w:World} {A:Option Addr} {n:Nat} {ps:List α} (h:vI R size w A n ps) (d:α) (i:Int) (h0:0<=i) (h1:i<n) :
  ∃ ad c,A=some ad/\c.length=size/\R (ps.getD i.toNat d) c/\∀ j u,c[j]?=some u->w.cell? (ad.add (i.toNat*size+j))=some u:=by
 obtain⟨ad,e,hc⟩:=h.2.2 (by omega);have hl:i.toNat<ps.length:=by have:=h.1;omega
 obtain⟨c,hs,hr,hcell⟩:=hc i.toNat _ (List.getElem?_eq_getElem hl);refine⟨ad,c,e,hs,?_,hcell⟩;rw[List.getD_eq_getElem?_getD,List.getElem?_eq_getElem hl];exact hr
theorem vI.nQ {α:Type} {R R':α->List Value->Prop} {size:Nat} {w w1:World} {A:Option Addr} {n:Nat} {ps:List α} (h:vI R size w A n ps) (hb:Below w.heap.size w w1) (hR:∀ p c,R p c->R' p c):vI R' size w1 A n ps :=
 ⟨h.1,h.2.1,fun hn=>by
  obtain⟨ad,e,hc⟩:=h.2.2 hn
  refine⟨ad,e,fun j p hj=>?_⟩
  obtain⟨c,hs,hr,hcell⟩:=hc j p hj
  exact⟨c,hs,hR _ _ hr,fun i u hu=>Qi hb (hcell i u hu)⟩⟩
theorem Xk {α:Type} {R:α->List Value->Prop} {w:World} {base n size:Nat} {e:TypeId} {v:Value} {ps:List α} {cs:List Value} (h:w.ownsRow base e size v n cs) (hR:bp R size ps cs) (hn:ps.length=n) :
  ∃ A c,v = .slice A n c/\vI R size w A n ps:=by
 rcases Nat.eq_zero_or_pos n with h0|h0
 ·rcases h.2 with ⟨rfl,rfl⟩|⟨g,cap,cur,rfl,_⟩
  ·exact⟨none,0,rfl,hn,by omega,fun hp=>absurd hp (by omega)⟩
  ·exact⟨_,cap,rfl,hn,by omega,fun hp=>absurd hp (by omega)⟩
 ·obtain⟨g,cap,rfl,_,_⟩:=h.form h0
  have hm:n<=9223372036854775807:=by
   rcases h.2 with ⟨_,h1⟩|⟨g',cap',cur,he,_,_,h1,h2,_⟩
   ·omega
   ·simp only[maxLen]at h2
    omega
  refine⟨_,cap,rfl,hn,hm,fun _=>⟨_,rfl,fun j p hj=>⟨(cs.drop (j*size)).take size,?_,hR.2 j p hj,fun i u hu=>?_⟩⟩⟩
  ·have hjl:=(List.getElem?_eq_some_iff.1 hj).1
   have h1:j*size+size<=cs.length:=by rw[hR.1,<- Nat.succ_mul];exact Nat.mul_le_mul_right _ hjl
   rw[List.length_take,List.length_drop];omega
  ·refine h.cells (g:=g) rfl _ u ?_
   rw[List.getElem?_take]at hu
   split at hu
   ·rw[List.getElem?_drop]at hu
    exact hu
   ·cases hu
theorem yq (ad:Addr) (m j:Nat) (hj:0<j):ad.add (m+j)=⟨(ad.add m).block,(ad.add m).off+j,none⟩:=by
 unfold Addr.add;by_cases hm:m=0
 ·subst hm
  simp[Nat.ne_of_gt hj]
 ·simp[hm,Nat.add_assoc]
section
variable {P:Program} {ops:Array Oper} {rest:List Oper} {o:Oper} {a:Act} {Q:Exit->Act->World->Prop}
theorem afd {w0 W:World} (base:Nat) (hgd:o.guard=none) (s x:Operand) (t e:TypeId) (z:Value) (size bytes:Nat)
  (ho:o.op = .call { callee := .builtin .append,args:=#[s,x],argTypes:=#[t,t] })
  (ht:P.underlying t=some (.slice e)) (hinfo:(P.info? e).map (fun i=>(i.zero,i.size,i.bytes))=some (some z,size,bytes)) (hz:z.cells.size=size) (hs0:0<size) (hb0:0<bytes)
  (v:Value) (n:Nat) (xs ys:List Value) (hs:a.eval s=v) (hx:a.eval x = .slice (some ⟨W.heap.size,0,none⟩) 1 1) (hys:ys.length=size) (h1:∀ u∈ys,u.oneCell'=true)
  (HO:W.ownsRow base e size v n xs) (HB:Below base w0 W) (hbase:base<=W.heap.size) (hl:(n+1)*bytes<=140737488355328)
  (h:∀ v1 w1,w1.ownsRow base e size v1 (n+1) (xs++ys)->Below base w0 w1->W.grownBy w1 v.ownBlock->(v1.ownBlock=v.ownBlock\/∃ b,v1.ownBlock=some b/\W.heap.size<=b)->wpList P ops Q rest (a.put o.dst v1) w1) :
  wpList P ops Q (o::rest) a (W.alloc (.cells ys.toArray e)):=by
 obtain⟨i0,hi,hzz⟩:=Option.map_eq_some_iff.1 hinfo;simp only[Prod.mk.injEq]at hzz;obtain⟨hz0,hz1,hz2⟩:=hzz;have hlen:n+1<=140737488355328:=Nat.le_trans (Nat.le_mul_of_pos_right _ hb0) hl
 refine wpList_append_own_at (W.alloc (.cells ys.toArray e)) hgd s x t ho base e i0 z size bytes ht hi hz0 hz1 hz2 hz hs0 v n xs hs (HO.alloc _) ⟨W.heap.size,0,none⟩ 1 1 ys hx (by rw[hys];simp)
  (by simpa using World.news_of_block (cs:=ys.toArray) (t:=e) (fr:=(0,0)) (heap_alloc_new W (.cells ys.toArray e))) h1 (by simp only[maxLen];omega) hl (by simp;omega) ?_
 intro v1 w1 hown hg _ hat;refine h v1 w1 hown ((HB.alloc hbase _).grown hg (by simp;omega) (Ba HO)) (World.grownBy.trans (World.grownBy_alloc W _ _) hg) ?_;rcases hat with hat|hat
 ·exact .inl hat
 ·exact .inr ⟨_,hat,by simp⟩
end
theorem nG {w:World} {g:Nat} {t:TypeId} {cs:Array Value} (h:w.heap[g]?=some (.cells cs t (0,0))) (i:Nat) (u:Value):(w.setCell ⟨g,i,none⟩ u).heap[g]?=some (.cells (cs.setIfInBounds i u) t (0,0)):=by
 simp[World.setCell,Array.getElem?_modify,h]
theorem eB {w:World} {g:Nat} {t:TypeId} {cs:Array Value} (h:w.heap[g]?=some (.cells cs t (0,0))) {p:Addr} (hp:g≠p.block) (u:Value):(w.setCell p u).heap[g]?=some (.cells cs t (0,0)):=(Below.heap_setCell w p u g hp).trans h
theorem oh {w:World} {g:Nat} {o:Obj} (h:w.heap[g]?=some o):g<w.heap.size:=(Array.getElem?_eq_some_iff.1 h).1
theorem gB {w:World} {g:Nat} {t:TypeId} {cs:Array Value} (h:w.heap[g]?=some (.cells cs t (0,0))) (i:Nat):w.cell? ⟨g,i,none⟩=cs[i]?:=cell_of_row w g i cs t (0,0) h
theorem bU {w:World} {g:Nat} {t:TypeId} {cs:Array Value} (h:w.heap[g]?=some (.cells cs t (0,0))) (i:Nat):w.frozen? ⟨g,i,none⟩=false:=by simp[World.frozen?,h]
def ux (w w':World) (g:Nat) (row:Option Nat):Prop:=w.heap.size<=w'.heap.size/\∀ i,i<w.heap.size->i≠g->some i≠row->w'.heap[i]?=w.heap[i]?
theorem ux.refl (w:World) (g:Nat) (row:Option Nat):ux w w g row:=⟨Nat.le_refl _,fun _ _ _ _=>rfl⟩
theorem ux.X4 {w w1:World} (h:Below w.heap.size w w1) (g:Nat) (row:Option Nat):ux w w1 g row:=⟨h.size,fun i hi _ _=>h.block i hi⟩
theorem ux.trans {w w1 w2:World} {g:Nat} {row UC:Option Nat} (h:ux w w1 g row) (k:ux w1 w2 g UC) (hr:UC=row\/∃ b,UC=some b/\w.heap.size<=b):ux w w2 g row :=
 ⟨Nat.le_trans h.1 k.1,fun i hi hg hn=>by
  refine(k.2 i (Nat.lt_of_lt_of_le hi h.1) hg ?_).trans (h.2 i hi hg hn)
  rcases hr with rfl|⟨b,rfl,hb⟩
  ·exact hn
  ·intro e
   injection e with e
   omega⟩
theorem ux.blk {w w1:World} {g g':Nat} {row:Option Nat} {o:Obj} (h:ux w w1 g row) (hb:w.heap[g']?=some o) (hg:g'≠g) (hr:some g'≠row):w1.heap[g']?=some o:=(h.2 g' (oh hb) hg hr).trans hb
theorem ux.own {w w1:World} {g:Nat} {row:Option Nat} {base:Nat} {e:TypeId} {size n:Nat} {v:Value} {xs:List Value} (h:ux w w1 g row) (ho:w.ownsRow base e size v n xs) (hg:v.ownBlock≠some g) (hr:v.ownBlock=none\/v.ownBlock≠row):w1.ownsRow base e size v n xs:=by
 obtain⟨h1,h2⟩:=ho;refine⟨h1,?_⟩;rcases h2 with h2|⟨b,cap,cur,rfl,hb,hh,r⟩
 ·exact .inl h2
 ·refine .inr ⟨b,cap,cur,rfl,hb,h.blk hh ?_ ?_,r⟩
  ·intro e
   exact hg (by rw[<- e];rfl)
  ·rcases hr with hr|hr
   ·simp[Value.ownBlock]at hr
   ·exact hr
def Ev {α:Type} (g:Nat->Option α) (r:α):Prop:=∃ K,∀ k,K<=k->g k=some r
theorem Ev.of {α:Type} {g:Nat->Option α} {r:α} (hg:∀ k,nV (g k) (g (k+1))) {k:Nat} (h:g k=some r):Ev g r:=⟨k,fun _ hk=>afN hg hk h⟩
theorem Ev.bind {α β:Type} {g:Nat->Option α} {f:Nat->α->Option β} {a:α} {r:β} (h:Ev g a) (k:Ev (fun n=>f n a) r):Ev (fun n=>(g n).bind (f n)) r:=by
 obtain⟨K,h⟩:=h;obtain⟨K',k⟩:=k;refine⟨max K K',fun n hn=>?_⟩;have h1:=h n (by omega);have h2:=k n (by omega);simp only[h1,Option.bind_some];exact h2
theorem Ev.step {α:Type} {g f:Nat->Option α} {r:α} (h:∀ k,g (k+1)=f k) (k:Ev f r):Ev g r:=by
 obtain⟨K,k⟩:=k;refine⟨K+1,fun n hn=>?_⟩;obtain⟨m,rfl⟩:∃ m,n=m+1:=⟨n-1,by omega⟩
 rw[h];exact k m (by omega)
theorem Ev.congr {α:Type} {g f:Nat->Option α} {r:α} (h:∀ k,g k=f k) (k:Ev f r):Ev g r:=by
 obtain⟨K,k⟩:=k;exact⟨K,fun n hn=>(h n).trans (k n hn)⟩
theorem xe {w:World} {base base':Nat} {e:TypeId} {size n:Nat} {v:Value} {xs:List Value} (h:w.ownsRow base e size v n xs) (hb:base'<=base):w.ownsRow base' e size v n xs:=by
 obtain⟨h1,h2⟩:=h;refine⟨h1,?_⟩;rcases h2 with h2|⟨g,cap,cur,rfl,hg,r⟩
 ·exact .inl h2
 ·exact .inr ⟨g,cap,cur,rfl,Nat.le_trans hb hg,r⟩
section
variable {α:Type} {enc:α->Value} {d:α}
def vK (enc:α->Value) (d:α) (w:World) (A:Option Addr) (n:Nat) (xs:List α):Prop :=
 xs.length=n/\n<=9223372036854775807/\(0<n->∃ ad,A=some ad/\∀ j,j<n->w.cell? (ad.add j)=some (enc (xs.getD j d)))
theorem vK.below {w w1:World} {A:Option Addr} {n:Nat} {xs:List α} (h:vK enc d w A n xs) (hb:Below w.heap.size w w1):vK enc d w1 A n xs :=
 ⟨h.1,h.2.1,fun hn=>by
  obtain⟨ad,e,hc⟩:=h.2.2 hn
  exact⟨ad,e,fun j hj=>Qi hb (hc j hj)⟩⟩
theorem vK.DU {w:World} {A:Option Addr} {n:Nat} {xs:List α} (h:vK enc d w A n xs) (i:Nat) (hi:i<=n):vK enc d w A i (xs.take i):=by
 refine⟨by rw[List.length_take,h.1];omega,by have:=h.2.1;omega,fun hp=>?_⟩;obtain⟨ad,e,hc⟩:=h.2.2 (by omega);refine⟨ad,e,fun j hj=>?_⟩;rw[hc j (by omega)];simp[List.getD_eq_getElem?_getD,hj]
end
theorem dJ {w:World} {g:Nat} {o:Obj} (h:w.heap[g]?=some o) (o':Obj):(w.alloc o').heap[g]?=some o:=(Below.heap_alloc w o' g (oh h)).trans h
theorem ej {w:World} {g:Nat} {o:Obj} (h:w.heap[g]?=some o):w.drew.heap[g]?=some o:=h
theorem eG {w:World} {g:Nat} {o:Obj} (h:w.heap[g]?=some o) (n:Nat):(w.drewN n).heap[g]?=some o:=h
theorem gP {w w1:World} {g:Nat} {o:Obj} (h:w.heap[g]?=some o) (hb:Below w.heap.size w w1):w1.heap[g]?=some o:=(hb.block g (oh h)).trans h
theorem jE (w:World) (o:Obj):(w.alloc o).heap[w.heap.size]?=some o:=heap_alloc_new w o
section
variable {P:Program}
theorem pI {fn:Func} {p u:Tmp} {ty:TypeId} (h:fn.results=#[.cell p ty,.tmp u]) (tmps:Array Value) (w:World) (g:Nat) (t:TypeId) (cs:Array Value) (fr:Nat × Nat) (d:TypeDesc)
  (hp:tmps.getD p undef = .pointer (some ⟨g,0,none⟩)) (hg:w.heap[g]?=some (.cells cs t fr))
  (hu:P.underlying ty=some d) (hd:(match d with | .struct _ | .array _ _=>true|_=>false)=true) (hi:(P.info? ty).map (·.size)=some cs.size) :
  (results fn tmps).run P w = .ok (.tuple #[.agg cs,tmps.getD u undef]) w:=by
 have hp':tmps[p]?.getD undef = .pointer (some ⟨g,0,none⟩):=by simpa using hp
 simp[results,h,hp',asAddr,run_loadVar_row w g t ty cs fr d hg hu hd hi]
end
theorem alQ {w:World} {base n m c size:Nat} {e:TypeId} {A:Option Addr} {xs:List Value} (h:w.ownsRow base e size (.slice A m c) n xs):m<=c:=by
 rcases h.2 with ⟨he,_⟩|⟨g,cap,cur,he,_,_,hnc,_⟩
 ·injection he with _ h2 h3
  omega
 ·injection he with _ h2 h3
  omega
def tv {α:Type} (R:α->List Value->Prop) (e:TypeId) (size:Nat) (w:World) (base:Nat) (v:Value) (ps:List α):Prop :=
 ∃ inner,w.ownsRow base e size v ps.length inner/\bp R size ps inner
section
variable {α:Type} {R R':α->List Value->Prop} {e:TypeId} {size:Nat} {w w1:World} {base:Nat} {v:Value} {ps:List α}
theorem tv.nQ (h:tv R e size w base v ps) (hR:∀ p c,R p c->R' p c):tv R' e size w base v ps:=by
 obtain⟨inner,ho,hr⟩:=h;exact⟨inner,ho,hr.nQ hR⟩
theorem tv.below (h:tv R e size w base v ps) (hb:Below w.heap.size w w1):tv R e size w1 base v ps:=by
 obtain⟨inner,ho,hr⟩:=h;exact⟨inner,td ho hb,hr⟩
theorem tv.reads (h:tv R e size w base v ps):∃ A c,v = .slice A ps.length c/\ps.length<=c/\vI R size w A ps.length ps:=by
 obtain⟨inner,ho,hr⟩:=h;obtain⟨A,c,rfl,hrow⟩:=Xk ho hr rfl;exact⟨A,c,rfl,alQ ho,hrow⟩
end
section
variable {P:Program} {ops:Array Oper} {rest:List Oper} {o:Oper} {a:Act} {Q:Exit->Act->World->Prop} {α:Type} {R:α->List Value->Prop}
theorem tv.append {w0 W:World} (base:Nat) (hgd:o.guard=none) (s x:Operand) (t e:TypeId) (z:Value) (size bytes:Nat)
  (ho:o.op = .call { callee := .builtin .append,args:=#[s,x],argTypes:=#[t,t] })
  (ht:P.underlying t=some (.slice e)) (hinfo:(P.info? e).map (fun i=>(i.zero,i.size,i.bytes))=some (some z,size,bytes)) (hz:z.cells.size=size) (hs0:0<size) (hb0:0<bytes)
  (v:Value) (ps:List α) (p:α) (cs:List Value) (hs:a.eval s=v) (hx:a.eval x = .slice (some ⟨W.heap.size,0,none⟩) 1 1) (hp:R p cs) (hcs:cs.length=size) (h1:∀ u∈cs,u.oneCell'=true)
  (HO:tv R e size W base v ps) (HB:Below base w0 W) (hbase:base<=W.heap.size) (hl:(ps.length+1)*bytes<=140737488355328)
  (h:∀ v1 w1,tv R e size w1 base v1 (ps++[p])->Below base w0 w1->W.grownBy w1 v.ownBlock->(v1.ownBlock=v.ownBlock\/∃ b,v1.ownBlock=some b/\W.heap.size<=b)->wpList P ops Q rest (a.put o.dst v1) w1) :
  wpList P ops Q (o::rest) a (W.alloc (.cells cs.toArray e)):=by
 obtain⟨inner,hown,hr⟩:=HO;refine afd base hgd s x t e z size bytes ho ht hinfo hz hs0 hb0 v ps.length inner cs hs hx hcs h1 hown HB hbase hl ?_;intro v1 w1 amE hb1 hg1 ap7;exact h v1 w1 ⟨inner++cs,by rw[List.length_append,List.length_singleton];exact amE,hr.snoc hp hcs⟩ hb1 hg1 ap7
end
structure Kd (α:Type) where
 sz:Nat
 E:List Nat
 K:World->α->List Value->Prop
 M:World->Nat->(Nat->Prop)->α->List Value->Prop
 uC:∀ {w x cs},K w x cs->cs.length=sz
 tB:∀ {w x cs},K w x cs->∀ u∈cs,u.oneCell'=true
 pM:∀ {w w1:World} {x cs},Below w.heap.size w w1->K w x cs->K w1 x cs
 tA:∀ {w base ok x cs},M w base ok x cs->K w x cs
 nL:∀ {w base ok ok' x cs},(∀ k,ok k->ok' k)->M w base ok x cs->M w base ok' x cs
 qZ:∀ {w:World} {base ok x cs},M w base ok x cs->M w base (fun k=>ok k/\base<=k/\k<w.heap.size/\∃ q,q∈E/\∃ cells,w.heap[k]?=some (.cells cells q (0,0))) x cs
 sM:∀ {w w1:World} {base ok x cs},(∀ k,ok k->w1.heap[k]?=w.heap[k]?)->M w base ok x cs->M w1 base ok x cs
 tq:∀ {w base base' ok x cs},base'<=base->M w base ok x cs->M w base' ok x cs
theorem ahc {w w1:World} {base:Nat} {e:TypeId} {size n:Nat} {v:Value} {xs:List Value} (h:w.ownsRow base e size v n xs) (hm:∀ k,v.ownBlock=some k->w1.heap[k]?=w.heap[k]?):w1.ownsRow base e size v n xs:=by
 obtain⟨h1,h2⟩:=h;refine⟨h1,?_⟩;rcases h2 with h2|⟨g,cap,cur,rfl,hg,hh,r⟩
 ·exact .inl h2
 ·exact .inr ⟨g,cap,cur,rfl,hg,(hm g (by simp[Value.ownBlock])).trans hh,r⟩
theorem afO {w:World} {base:Nat} {e:TypeId} {size n:Nat} {v:Value} {xs:List Value} (h:w.ownsRow base e size v n xs) (k:Nat) (hk:v.ownBlock=some k):∃ cells,w.heap[k]?=some (.cells cells e (0,0)):=by
 rcases h.2 with ⟨rfl,_⟩|⟨g,cap,cur,rfl,hg,hh,r⟩
 ·simp[Value.ownBlock]at hk
 ·have:g=k:=by simpa [Value.ownBlock] using hk
  subst this;exact⟨cur,hh⟩
namespace Kd
def C {α:Type} (d:Kd α) (w:World) (A:Option Addr) (n:Nat) (xs:List α):Prop:=vI (d.K w) d.sz w A n xs
def R {α:Type} (d:Kd α) (e:Nat) (w:World) (base:Nat) (ok:Nat->Prop) (v:Value) (xs:List α):Prop :=
 (∀ k,v.ownBlock=some k->ok k)/\tv (d.M w base (fun k=>ok k/\some k≠v.ownBlock)) e d.sz w base v xs
section
variable {α:Type} {d:Kd α} {e:Nat} {w w1:World} {base:Nat} {ok ok':Nat->Prop} {v:Value} {xs:List α}
theorem xq {A:Option Addr} {n:Nat} (h:d.C w A n xs) (hb:Below w.heap.size w w1):d.C w1 A n xs:=vI.nQ h hb (fun _ _ hp=>d.pM hb hp)
theorem yF (h:d.R e w base ok v xs) (hok:∀ k,ok k->ok' k):d.R e w base ok' v xs:=⟨fun k hk=>hok k (h.1 k hk),h.2.nQ (fun _ _ hp=>d.nL (fun k hk=>⟨hok k hk.1,hk.2⟩) hp)⟩
theorem Mu (h:d.R e w base ok v xs):d.R e w base (fun k=>ok k/\base<=k/\k<w.heap.size/\∃ q,q∈e::d.E/\∃ cells,w.heap[k]?=some (.cells cells q (0,0))) v xs:=by
 obtain⟨h0,inner,ho,hr⟩:=h;refine⟨fun k hk=>?_,inner,ho,hr.nQ (fun _ _ hp=>d.nL (fun k hk=>?_) (d.qZ hp))⟩
 ·obtain⟨cells,hc⟩:=afO ho k hk
  exact⟨h0 k hk,Ba ho k hk,alP ho k hk,e,List.mem_cons_self,cells,hc⟩
 ·obtain⟨⟨h1,h2⟩,h3,h4,q,hq,hc⟩:=hk
  exact⟨⟨h1,h3,h4,q,List.mem_cons_of_mem _ hq,hc⟩,h2⟩
theorem Z2 (h:d.R e w base ok v xs) (hm:∀ k,ok k->w1.heap[k]?=w.heap[k]?):d.R e w1 base ok v xs:=by
 obtain⟨h0,inner,ho,hr⟩:=h;exact⟨h0,inner,ahc ho (fun k hk=>hm k (h0 k hk)),hr.nQ (fun _ _ hp=>d.sM (fun k hk=>hm k hk.1) hp)⟩
theorem tu {base':Nat} (h:d.R e w base ok v xs) (hb:base'<=base):d.R e w base' ok v xs:=by
 obtain⟨h0,inner,ho,hr⟩:=h;exact⟨h0,inner,xe ho hb,hr.nQ (fun _ _ hp=>d.tq hb hp)⟩
theorem Z3 (h:d.R e w base ok v xs) (hm:∀ k,ok k->k<w.heap.size->w1.heap[k]?=w.heap[k]?):d.R e w1 base ok v xs :=
 yF (Z2 (Mu h) (fun k hk=>hm k hk.1 hk.2.2.1)) (fun _ hk=>hk.1)
theorem alR {x:α} {cs:List Value} (h:d.M w base ok x cs) (hm:∀ k,ok k->k<w.heap.size->w1.heap[k]?=w.heap[k]?):d.M w1 base ok x cs :=
 d.nL (fun _ hk=>hk.1) (d.sM (fun k hk=>hm k hk.1 hk.2.2.1) (d.qZ h))
theorem jZ (h:d.R e w base ok v xs) (hb:Below w.heap.size w w1):d.R e w1 base ok v xs:=Z3 h (fun k _ hk=>hb.block k hk)
theorem ah4 {x:α} {cs:List Value} (h:d.M w base ok x cs) (hb:Below w.heap.size w w1):d.M w1 base ok x cs:=alR h (fun k _ hk=>hb.block k hk)
theorem Gt (h:d.R e w base ok v xs) {p:Addr} (hok:∀ k,ok k->k≠p.block) (u:Value):d.R e (w.setCell p u) base ok v xs:=Z3 h (fun k ho _=>Below.heap_setCell w p u k (hok k ho))
theorem RS (h:d.R e w base ok v xs):∃ A c,v = .slice A xs.length c/\xs.length<=c/\d.C w A xs.length xs:=by
 obtain⟨A,c,he,hl,hr⟩:=tv.reads h.2;exact⟨A,c,he,hl,hr.nQ (Below.refl _ _) (fun _ _ hp=>d.tA hp)⟩
theorem uy (h:d.R e w base ok v xs):∃ A c,v = .slice A xs.length c:=by
 obtain⟨A,c,he,_⟩:=RS h;exact⟨A,c,he⟩
end
def scalar {α:Type} (enc:α->Value) (h1:∀ x,(enc x).oneCell'=true):Kd α where
 sz:=1
 E:=[]
 K:=fun _ x cs=>cs=[enc x]
 M:=fun _ _ _ x cs=>cs=[enc x]
 uC:=fun h=>by rw[h];rfl
 tB:=fun h u hu=>by
  rw[h]at hu
  rw[List.mem_singleton.1 hu]
  exact h1 _
 pM:=fun _ h=>h
 tA:=fun h=>h
 nL:=fun _ h=>h
 qZ:=fun h=>h
 sM:=fun _ h=>h
 tq:=fun _ h=>h
def int (k:IntKind):Kd Int:=scalar (Value.int k) (fun _=>rfl)
def bool:Kd Bool:=scalar Value.bool (fun _=>rfl)
def string:Kd ByteArray:=scalar Value.string (fun _=>rfl)
def slice {α:Type} (e:Nat) (d:Kd α):Kd (List α) where
 sz:=1
 E:=e::d.E
 K:=fun w xs cs=>∃ A c,cs=[.slice A xs.length c]/\xs.length<=c/\d.C w A xs.length xs
 M:=fun w base ok xs cs=>∃ v,cs=[v]/\d.R e w base ok v xs
 uC:=by
  rintro w x cs ⟨A,c,rfl,_⟩
  rfl
 tB:=by
  rintro w x cs ⟨A,c,rfl,_⟩ u hu
  rw[List.mem_singleton.1 hu]
  rfl
 pM:=by
  rintro w w1 x cs hb ⟨A,c,rfl,hl,hr⟩
  exact⟨A,c,rfl,hl,xq hr hb⟩
 tA:=by
  rintro w base ok x cs ⟨v,rfl,h⟩
  obtain⟨A,c,rfl,hl,hr⟩:=RS h
  exact⟨A,c,rfl,hl,hr⟩
 nL:=by
  rintro w base ok ok' x cs hok ⟨v,rfl,h⟩
  exact⟨v,rfl,yF h hok⟩
 qZ:=by
  rintro w base ok x cs ⟨v,rfl,h⟩
  exact⟨v,rfl,Mu h⟩
 sM:=by
  rintro w w1 base ok x cs hm ⟨v,rfl,h⟩
  exact⟨v,rfl,Z2 h hm⟩
 tq:=by
  rintro w base base' ok x cs hb ⟨v,rfl,h⟩
  exact⟨v,rfl,tu h hb⟩
def pair {α β:Type} (a:Kd α) (b:Kd β):Kd (α × β) where
 sz:=a.sz+b.sz
 E:=a.E++b.E
 K:=fun w x cs=>∃ c0 c1,cs=c0++c1/\a.K w x.1 c0/\b.K w x.2 c1
 M:=fun w base ok x cs=>∃ c0 c1,cs=c0++c1/\a.M w base ok x.1 c0/\b.M w base ok x.2 c1
 uC:=by
  rintro w x cs ⟨c0,c1,rfl,h0,h1⟩
  rw[List.length_append,a.uC h0,b.uC h1]
 tB:=by
  rintro w x cs ⟨c0,c1,rfl,h0,h1⟩ u hu
  rcases List.mem_append.1 hu with hu|hu
  ·exact a.tB h0 u hu
  ·exact b.tB h1 u hu
 pM:=by
  rintro w w1 x cs hb ⟨c0,c1,rfl,h0,h1⟩
  exact⟨c0,c1,rfl,a.pM hb h0,b.pM hb h1⟩
 tA:=by
  rintro w base ok x cs ⟨c0,c1,rfl,h0,h1⟩
  exact⟨c0,c1,rfl,a.tA h0,b.tA h1⟩
 nL:=by
  rintro w base ok ok' x cs hok ⟨c0,c1,rfl,h0,h1⟩
  exact⟨c0,c1,rfl,a.nL hok h0,b.nL hok h1⟩
 qZ:=by
  rintro w base ok x cs ⟨c0,c1,rfl,h0,h1⟩
  refine⟨c0,c1,rfl,a.nL ?_ (a.qZ h0),b.nL ?_ (b.qZ h1)⟩
  ·rintro k ⟨h2,h3,h4,q,hq,hc⟩
   exact⟨h2,h3,h4,q,List.mem_append_left _ hq,hc⟩
  ·rintro k ⟨h2,h3,h4,q,hq,hc⟩
   exact⟨h2,h3,h4,q,List.mem_append_right _ hq,hc⟩
 sM:=by
  rintro w w1 base ok x cs hm ⟨c0,c1,rfl,h0,h1⟩
  exact⟨c0,c1,rfl,a.sM hm h0,b.sM hm h1⟩
 tq:=by
  rintro w base base' ok x cs hb ⟨c0,c1,rfl,h0,h1⟩
  exact⟨c0,c1,rfl,a.tq hb h0,b.tq hb h1⟩
def O4 {α β:Type} (d:Kd α) (f:β->α):Kd β where
 sz:=d.sz
 E:=d.E
 K:=fun w x cs=>d.K w (f x) cs
 M:=fun w base ok x cs=>d.M w base ok (f x) cs
 uC:=d.uC
 tB:=d.tB
 pM:=d.pM
 tA:=d.tA
 nL:=d.nL
 qZ:=d.qZ
 sM:=d.sM
 tq:=d.tq
theorem Tp {α:Type} {d:Kd α} {w:World} {A:Option Addr} {n:Nat} {xs:List α} (h:d.C w A n xs) (z:α) (i:Int) (h0:0<=i) (h1:i<n) :
  ∃ ad c,A=some ad/\c.length=d.sz/\d.K w (xs.getD i.toNat z) c/\∀ j u,c[j]?=some u->w.cell? (ad.add (i.toNat*d.sz+j))=some u:=vI.ap6 h z i h0 h1
end Kd
namespace Kd
section
variable {α β:Type} {d:Kd α} {d':Kd β} {e e':Nat} {w w1 W:World} {base b b':Nat} {ok ok' okv oku:Nat->Prop} {v u:Value} {xs:List α} {ys:List β}
theorem jO (h:d.R e w base ok v xs) (o:Obj):d.R e (w.alloc o) base ok v xs:=jZ h (ym (Below.refl _ _) o)
theorem jf (h:d.R e w base ok v xs):d.R e w.drew base ok v xs:=jZ h (Xw (Below.refl _ _))
theorem jP (h:d.R e w base ok v xs) (m:Nat):d.R e (w.drewN m) base ok v xs:=jZ h (ID (Below.refl _ _) m)
theorem vL {A:Option Addr} {n:Nat} (h:d.C w A n xs) (o:Obj):d.C (w.alloc o) A n xs:=xq h (ym (Below.refl _ _) o)
theorem vP {A:Option Addr} {n:Nat} (h:d.C w A n xs):d.C w.drew A n xs:=xq h (Xw (Below.refl _ _))
theorem vM {A:Option Addr} {n:Nat} (h:d.C w A n xs) (m:Nat):d.C (w.drewN m) A n xs:=xq h (ID (Below.refl _ _) m)
theorem lD {A:Option Addr} {n c:Nat} (h:d.R e w base ok (.slice A n c) xs):n=xs.length/\n<=c/\d.C w A xs.length xs:=by
 obtain⟨A',c',he,hl,hr⟩:=RS h;injection he with h1 h2 h3
 subst h1;exact⟨h2,by omega,hr⟩
end
section
variable {P:Program} {ops:Array Oper} {rest:List Oper} {o:Oper} {a:Act} {Q:Exit->Act->World->Prop}
theorem XH {W w1:World} {v:Value} (hgd:o.guard=none) (hrun:(execOp a.eval o).run P W = .ok (.value v) w1) (h:wpList P ops Q rest (a.put o.dst v) w1):wpList P ops Q (o::rest) a W:=by
 refine wpList_plain hgd fun K hK=>?_;unfold Oper.wp;rw[hrun];exact hK _ _ h
variable {α:Type}
theorem uD (d:Kd α) {w0 W:World} (base e:Nat) (hgd:o.guard=none) {N:Tmp} (_hd:o.dst=some N) {xs:List α} {inner:List Value} {ok rV:Nat->Prop}
  (hrun:(execOp a.eval o).run P W = .ok (.value (.slice (some ⟨W.heap.size,0,none⟩) xs.length xs.length)) (W.alloc (.cells inner.toArray e)))
  (ab8:bp (d.M W base rV) d.sz xs inner) (hok:∀ k,rV k->ok k) (alS:ok W.heap.size) (HB:Below base w0 W) (hbase:base<=W.heap.size) (hm:xs.length<=9223372036854775807)
  (h:∀ v1 w1,d.R e w1 base ok v1 xs->Below base w0 w1->W.grownBy w1 none->(∃ b,v1.ownBlock=some b/\W.heap.size<=b)->wpList P ops Q rest (a.put o.dst v1) w1):wpList P ops Q (o::rest) a W:=by
 refine XH hgd hrun (h _ _ ⟨fun k hk=>?_,inner,?_,?_⟩ (HB.alloc hbase _) (World.grownBy_alloc W _ none) ⟨W.heap.size,by simp[Value.ownBlock],Nat.le_refl _⟩)
 ·have:W.heap.size=k:=by simpa [Value.ownBlock] using hk
  subst this;exact alS
 ·have h2:=World.ownsRow_lit (base:=base) (e:=e) (size:=d.sz) W inner.toArray xs.length hbase (by simpa [maxLen] using hm) (by simpa using ab8.1)
  simpa using h2
 ·refine ab8.nQ (fun p c hp=>d.nL (fun k hk=>⟨hok k hk.1,fun he=>?_⟩) (ah4 (d.qZ hp) (ym (Below.refl _ _) _)))
  have h3:k=W.heap.size:=by simpa [Value.ownBlock] using he
  have:=hk.2.2.1;omega
end
end Kd
def ap8 (w:World) (base:Nat) (e:TypeId) (size:Nat) (v:Value) (n:Nat) (xs:List Value):Prop :=
 xs.length=n*size /\
 ((n=0/\∃ A,v = .slice A 0 0/\∀ a,A=some a->base<=a.block/\∃ cur,w.heap[a.block]?=some (.cells cur e (0,0))) \/
  ∃ g off cap cur,v = .slice (some ⟨g,off*size,none⟩) n cap/\base<=g/\w.heap[g]?=some (.cells cur e (0,0))/\n<=cap/\off+cap<=maxLen/\cur.size=(off+cap)*size/\(cur.toList.drop (off*size)).take (n*size)=xs)
namespace Kd
def Q {α:Type} (d:Kd α) (e:Nat) (w:World) (base:Nat) (ok:Nat->Prop) (v:Value) (xs:List α):Prop :=
 (∀ k,v.ownBlock=some k->ok k)/\∃ inner,ap8 w base e d.sz v xs.length inner/\bp (d.M w base (fun k=>ok k/\some k≠v.ownBlock)) d.sz xs inner
end Kd
theorem tj {w W:World} (h:Below w.heap.size w W):w.heap.size<=W.heap.size:=h.size
theorem afx {w W w2:World} (h:Below w.heap.size w W) (k:Below W.heap.size W w2):Below w.heap.size w w2:=afw h h.size k
theorem vH.nil (W:World) (k:IntKind):vH W k none ([]:List Int).length []:=⟨rfl,by simp,fun h=>absurd h (Nat.lt_irrefl 0)⟩
theorem vH.drewN {W:World} {k:IntKind} {A:Option Addr} {n:Nat} {xs:List Int} (h:vH W k A n xs) (m:Nat):vH (W.drewN m) k A n xs:=h
theorem Qq {w W:World} {g j:Nat} {v:Value} (h:Below w.heap.size w W) (hg:w.heap.size<=g):Below w.heap.size w (W.setCell ⟨g,j,none⟩ v):=h.setCell hg _
theorem vK.nil {α:Type} (enc:α->Value) (d:α) (W:World):vK enc d W none ([]:List α).length []:=⟨rfl,by simp,fun h=>absurd h (Nat.lt_irrefl 0)⟩
theorem vK.drewN {α:Type} {enc:α->Value} {d:α} {W:World} {A:Option Addr} {n:Nat} {xs:List α} (h:vK enc d W A n xs) (m:Nat):vK enc d (W.drewN m) A n xs:=h
theorem cell_far {W:World} {p a:Addr} (h:a.block≠p.block) (u:Value):(W.setCell p u).cell? a=W.cell? a:=by
 have:=Below.heap_setCell W p u a.block h;simp[World.cell?,this]
theorem FU {w:World} {g:Nat} {t:TypeId} {cs cs':Array Value} (h:w.heap[g]?=some (.cells cs t (0,0))) (i:Nat) (u:Value) (e:cs.setIfInBounds i u=cs'):(w.setCell ⟨g,i,none⟩ u).heap[g]?=some (.cells cs' t (0,0)):=e ▸ nG h i u
theorem L8 {base:Nat} {w W:World} (h:Below base w W):Below base w W.drew:=h.drew
namespace Kd
section
variable {α:Type} {d:Kd α} {e base g:Nat} {ok:Nat->Prop} {w w1:World} {v:Value} {xs:List α} {o:Obj}
theorem ahd (h:d.R e w base ok v xs) (a:Nat) (ha:w.heap.size<=a):d.R e w base (fun k=>ok k/\k≠a) v xs:=yF (Mu h) (fun k hk=>⟨hk.1,by have:=hk.2.2.1;omega⟩)
theorem iV (h:d.R e w1 w.heap.size ok v xs) (hb:w.heap[g]?=some o):d.R e w1 w.heap.size (fun k=>ok k/\k≠g) v xs:=yF (Mu h) (fun k hk=>⟨hk.1,by have:=oh hb;have:=hk.2.1;omega⟩)
end
end Kd
section
variable {P:Program} {ops:Array Oper} {rest:List Oper} {o:Oper} {a:Act} {Q:Exit->Act->World->Prop}
theorem afP {W:World} (hgd:o.guard=none) {N:Tmp} (_hd:o.dst=some N) {cs:Array Value} {t:TypeId}
  (hrun:(execOp a.eval o).run P W = .ok (.value (.pointer (some ⟨W.heap.size,0,none⟩))) (W.alloc (.cells cs t (0,0))))
  (h:∀ g,g=W.heap.size->∀ w1,w1.heap[g]?=some (.cells cs t (0,0))->Below W.heap.size W w1->wpList P ops Q rest (a.put o.dst (.pointer (some ⟨g,0,none⟩))) w1):wpList P ops Q (o::rest) a W :=
 Kd.XH hgd hrun (h _ rfl _ (jE W _) (ym (Below.refl _ _) _))
end
section
variable {P:Program} {ops:Array Oper} {rest:List Oper} {o:Oper} {a:Act} {Q:Exit->Act->World->Prop} {W:World}
theorem aV {N:Tmp} (_hN:o.dst=some N) (h:wpList P ops Q (o::rest) a W):wpList P ops Q (o::rest) a W:=h
end
section
variable {P:Program} {ops:Array Oper} {o:Oper} {a:Act} {Q:Exit->Act->World->Prop} {Kc:Act->World->Prop}
theorem afy {W w1:World} {v:Value} (hw:Region.wanted o (yielded ops a.tmps)=true) (hrun:(execOp a.eval o).run P W = .ok (.value v) w1) (h:Kc (a.put o.dst v) w1):if Region.wanted o (yielded ops a.tmps)=true then Oper.wp P o a W Kc Q else Kc (a.put o.dst undef) W:=by
 rw[if_pos hw];unfold Oper.wp;rw[hrun];exact h
theorem oU {W:World} (hw:Region.wanted o (yielded ops a.tmps)=true) {N:Tmp} (_hd:o.dst=some N) {cs:Array Value} {t:TypeId}
  (hrun:(execOp a.eval o).run P W = .ok (.value (.pointer (some ⟨W.heap.size,0,none⟩))) (W.alloc (.cells cs t (0,0))))
  (h:∀ g,g=W.heap.size->∀ w1,w1.heap[g]?=some (.cells cs t (0,0))->Below W.heap.size W w1->Kc (a.put o.dst (.pointer (some ⟨g,0,none⟩))) w1):if Region.wanted o (yielded ops a.tmps)=true then Oper.wp P o a W Kc Q else Kc (a.put o.dst undef) W :=
 afy hw hrun (h _ rfl _ (jE W _) (ym (Below.refl _ _) _))
end
end Go.Proofs.aD.aY
namespace Go.Proofs.aD.bO
section
variable {P:Program} {ops:Array Oper} {Q:Exit->Act->World->Prop} {md:Region.Mode} {S:World->Prop} {ds:List Nat}
def Region.uz (md:Region.Mode) (ops:Array Oper) (i:Nat):Nat->Nat->Bool
 | 0,_=>false
 | fuel+1,d=>match ops[d]? with
  | some o=>o.after.any fun e=>Region.binds md e&&(e.on==i||Region.uz md ops i fuel e.on)
  | none=>false
def Region.IY (md:Region.Mode) (ops:Array Oper) (listed:Array Bool):Bool :=
 (List.range ops.size).all fun j=>!listed.getD j false||match ops[j]? with
  | some o=>o.after.all fun e=>!Region.binds md e||listed.getD e.on false
  | none=>true
def Region.NQ (md:Region.Mode) (ops:Array Oper) (listed:Array Bool) (ds:List Nat) (i:Nat):Bool :=
 ds.all fun d=>listed.getD d true||Region.uz md ops i ops.size d
def CZ (md:Region.Mode) (ops:Array Oper) (listed:Array Bool):Prop :=
 ∀ j oj,ops[j]?=some oj->listed.getD j false=true->∀ e∈oj.after,Region.binds md e=true->listed.getD e.on false=true
theorem Region.afq {listed:Array Bool} (h:Region.IY md ops listed=true):CZ md ops listed:=by
 intro j oj hj hl e he hb;have hlt:j<ops.size:=(Array.getElem?_eq_some_iff.1 hj).1;have h1:=List.all_eq_true.1 h j (List.mem_range.2 hlt);simp only[hl,hj,Bool.not_true,Bool.false_or]at h1;have h2:=Array.all_eq_true_iff_forall_mem.1 h1 e he;simpa [hb] using h2
theorem CZ.set {listed:Array Bool} {i:Nat} (h:CZ md ops listed) (hi:i∈Region.ready md ops listed):CZ md ops (listed.setIfInBounds i true):=by
 obtain⟨_,oi,hoi,hall⟩:=mem_ready.1 hi;intro j oj hj hl e he hb;by_cases hij:i=j
 ·subst hij
  have:oj=oi:=Option.some.inj (hj.symm.trans hoi);subst this;exact getD_set_true (hall e he hb)
 ·rw[getD_set_ne false hij]at hl
  exact getD_set_true (h j oj hj hl e he hb)
theorem Region.Xn {listed:Array Bool} {i:Nat} (hc:CZ md ops listed):∀ (fuel d:Nat),Region.uz md ops i fuel d=true->listed.getD d false=true->listed.getD i false=true
 | 0,_,h,_=>by simp[Region.uz]at h
 | fuel+1,d,h,hl=>by
  unfold Region.uz at h
  cases ho:ops[d]? with
  | none=>rw[ho]at h;simp at h
  | some o =>
   rw[ho]at h
   obtain⟨e,he,h1⟩:=Array.any_eq_true'.1 h
   simp only[Bool.and_eq_true,Bool.or_eq_true,beq_iff_eq]at h1
   have hle:=hc d o ho hl e he h1.1
   rcases h1.2 with h2|h2
   ·rw[<- h2];exact hle
   ·exact Region.Xn hc fuel e.on h2 hle
theorem Region.afe {listed:Array Bool} {i d fuel:Nat} (hc:CZ md ops listed) (hr:Region.uz md ops i fuel d=true) (hun:listed.getD i true=false):d∉Region.ready md ops listed:=by
 intro hd;obtain⟨_,o,ho,hall⟩:=mem_ready.1 hd;have hi:listed.getD i false=true:=by
  cases fuel with
  | zero=>simp[Region.uz]at hr
  | succ n =>
   unfold Region.uz at hr;rw[ho]at hr
   obtain⟨e,he,h1⟩:=Array.any_eq_true'.1 hr;simp only[Bool.and_eq_true,Bool.or_eq_true,beq_iff_eq]at h1;have hle:=hall e he h1.1;rcases h1.2 with h2|h2
   ·rw[<- h2];exact hle
   ·exact Region.Xn hc n e.on h2 hle
 rcases Nat.lt_or_ge i listed.size with h'|h'
 ·simp[h']at hun hi
  rw[hun]at hi
  cases hi
 ·simp[Array.getElem?_eq_none h']at hun
def fI (P:Program) (md:Region.Mode) (ops:Array Oper) (Q:Exit->Act->World->Prop) (S:World->Prop) (ds:List Nat):Nat->Array Bool->Act->World->Prop
 | 0,listed,a,w=>Region.ready md ops listed=[]/\Q .normal a w
 | fuel+1,listed,a,w =>
  (Region.ready md ops listed=[]->Q .normal a w) /\
  ∀ i∈Region.ready md ops listed,wpOp P ops Q i (fun a' w'=>(i∉ds->S w->S w')/\fI P md ops Q S ds fuel (listed.setIfInBounds i true) a' w') a w
theorem Xl:∀ (fuel:Nat) (listed:Array Bool) (a:Act) (w:World),fI P md ops Q S ds fuel listed a w->wpAny P md ops Q fuel listed a w
 | 0,_,_,_,h=>h
 | fuel+1,_,_,_,h=>⟨h.1,fun i hi=>wpOp_mono (fun a' w' h'=>Xl fuel _ a' w' h'.2) (h.2 i hi)⟩
theorem aff {i:Nat} {oi:Oper} {v:Value} (hi:ops[i]?=some oi) (hsel:∀ (j:Nat) (o:Oper) cs b,ops[j]?=some o->o.op ≠ .select cs b)
  (hQ:∀ c a w,Q (.panic c) (a.put oi.dst v) w->Q (.panic c) a w) (n:Nat) :
  ∀ (fuel:Nat) (listed:Array Bool) (a:Act) (w:World),
   (∀ j oj,ops[j]?=some oj->j≠i->listed.getD j true=false->(∀ e∈oj.after,Region.binds md e=true->e.on≠i)->oi.apart ops oj=true) ->
   CZ md ops listed->(∀ d∈ds,listed.getD d true=false->Region.uz md ops i n d=true) ->
   i∈Region.ready md ops listed->YieldsIf P ops S oi v a->S w ->
   fI P md ops Q S ds fuel (listed.setIfInBounds i true) (a.put oi.dst v) w->fI P md ops Q S ds (fuel+1) listed a w:=by
 intro fuel;induction fuel with
 | zero =>
  intro listed a w _ _ _ hr hy hS H;refine⟨fun h=>(by rw[h]at hr;cases hr),fun j hj=>?_⟩;by_cases hji:j=i
  ·subst hji;exact hy.wpOp hi hS ⟨fun _ h=>h,H⟩
  ·have:=ready_mono hj hji
   rw[H.1]at this
   cases this
 | succ fuel ih =>
  intro listed a w hfree hc hd hr hy hS H;refine⟨fun h=>(by rw[h]at hr;cases hr),fun j hj=>?_⟩;by_cases hji:j=i
  ·subst hji;exact hy.wpOp hi hS ⟨fun _ h=>h,H⟩
  ·have h1:=H.2 j (ready_mono hj hji)
   obtain⟨xK,oj,wE,hall⟩:=mem_ready.1 hj;have Hh:=(mem_ready.1 hr).1;have hnot:∀ e∈oj.after,Region.binds md e=true->e.on≠i:=fun e he hb heq=>by
    have h1:=hall e he hb;rw[heq]at h1
    rcases Nat.lt_or_ge i listed.size with h'|h'
    ·simp[h']at Hh h1;rw[Hh]at h1;cases h1
    ·simp[Array.getElem?_eq_none h']at h1
   have hjd:j∉ds:=fun hm=>Region.afe hc (hd j hm xK) Hh hj;have h2:=wpOp_putIf wE (hfree j oj wE hji xK hnot) (fun cs b=>hsel i oi cs b hi) (fun cs b=>hsel j oj cs b wE) hQ hy h1
   have SM:∀ k ok,ops[k]?=some ok->k≠i->(listed.setIfInBounds j true).getD k true=false ->
     (∀ e∈ok.after,Region.binds md e=true->e.on≠i)->oi.apart ops ok=true:=fun k ok hk hki hun hno=>by
    refine hfree k ok hk hki ?_ hno;by_cases hjk:j=k
    ·subst hjk;exact xK
    ·rw[getD_set_ne true hjk]at hun;exact hun
   have hd':∀ d∈ds,(listed.setIfInBounds j true).getD d true=false->Region.uz md ops i n d=true:=fun d hm hun=>by
    refine hd d hm ?_;by_cases hjk:j=d
    ·subst hjk;exact xK
    ·rw[getD_set_ne true hjk]at hun;exact hun
   refine wpOp_mono (fun a' w' h3=>⟨h3.2.1,ih (listed.setIfInBounds j true) a' w' SM (hc.set hj) hd' (ready_mono hr (Ne.symm hji)) h3.1 (h3.2.1 hjd hS) ?_⟩) h2;rw[Array.setIfInBounds_comm _ _ hji];exact h3.2.2
theorem afl {i:Nat} {oi:Oper} {v:Value} (hi:ops[i]?=some oi) (hsel:∀ (j:Nat) (o:Oper) cs b,ops[j]?=some o->o.op ≠ .select cs b)
  (hQ:∀ c a w,Q (.panic c) (a.put oi.dst v) w->Q (.panic c) a w) :
  ∀ (fuel:Nat) (listed:Array Bool) (a:Act) (w:World),
   (∀ j oj,ops[j]?=some oj->j≠i->listed.getD j true=false->(∀ e∈oj.after,Region.binds md e=true->e.on≠i)->oi.apart ops oj=true) ->
   i∈Region.ready md ops listed->Yields P ops oi v a ->
   fI P md ops Q S ds fuel (listed.setIfInBounds i true) (a.put oi.dst v) w->fI P md ops Q S ds (fuel+1) listed a w:=by
 intro fuel;induction fuel with
 | zero =>
  intro listed a w _ hr hy H;refine⟨fun h=>(by rw[h]at hr;cases hr),fun j hj=>?_⟩;by_cases hji:j=i
  ·subst hji;exact(hy.yieldsIf (S:=fun _=>True)).wpOp hi trivial ⟨fun _ h=>h,H⟩
  ·have:=ready_mono hj hji
   rw[H.1]at this
   cases this
 | succ fuel ih =>
  intro listed a w hfree hr hy H;refine⟨fun h=>(by rw[h]at hr;cases hr),fun j hj=>?_⟩;by_cases hji:j=i
  ·subst hji;exact(hy.yieldsIf (S:=fun _=>True)).wpOp hi trivial ⟨fun _ h=>h,H⟩
  ·have h1:=H.2 j (ready_mono hj hji)
   obtain⟨xK,oj,wE,hall⟩:=mem_ready.1 hj;have Hh:=(mem_ready.1 hr).1;have hnot:∀ e∈oj.after,Region.binds md e=true->e.on≠i:=fun e he hb heq=>by
    have h1:=hall e he hb;rw[heq]at h1
    rcases Nat.lt_or_ge i listed.size with h'|h'
    ·simp[h']at Hh h1;rw[Hh]at h1;cases h1
    ·simp[Array.getElem?_eq_none h']at h1
   have h2:=wpOp_put wE (hfree j oj wE hji xK hnot) (fun cs b=>hsel i oi cs b hi) (fun cs b=>hsel j oj cs b wE) hQ hy h1
   have SM:∀ k ok,ops[k]?=some ok->k≠i->(listed.setIfInBounds j true).getD k true=false ->
     (∀ e∈ok.after,Region.binds md e=true->e.on≠i)->oi.apart ops ok=true:=fun k ok hk hki hun hno=>by
    refine hfree k ok hk hki ?_ hno;by_cases hjk:j=k
    ·subst hjk;exact xK
    ·rw[getD_set_ne true hjk]at hun;exact hun
   refine wpOp_mono (fun a' w' h3=>⟨h3.2.1,ih (listed.setIfInBounds j true) a' w' SM (ready_mono hr (Ne.symm hji)) h3.1 ?_⟩) h2;rw[Array.setIfInBounds_comm _ _ hji];exact h3.2.2
theorem afi {i:Nat} {oi:Oper} {v:Value} {fuel:Nat} {listed:Array Bool} {a:Act} {w:World} (hi:ops[i]?=some oi)
  (hs:Region.noSelect ops=true) (hf:Region.free md ops listed i=true) (hr:(Region.ready md ops listed).contains i=true)
  (hc:Region.IY md ops listed=true) (hl:Region.NQ md ops listed ds i=true)
  (hQ:∀ c a w,Q (.panic c) (a.put oi.dst v) w->Q (.panic c) a w) (hy:YieldsIf P ops S oi v a) (hS:S w)
  (h:fI P md ops Q S ds fuel (listed.setIfInBounds i true) (a.put oi.dst v) w):fI P md ops Q S ds (fuel+1) listed a w :=
 aff hi (Region.noSelect_spec hs) hQ ops.size fuel listed a w (Region.free_spec hi hf) (Region.afq hc)
  (fun d hm hun=>by have:=List.all_eq_true.1 hl d hm;rw[hun]at this;simpa using this) (by simpa using hr) hy hS h
theorem afm {rs:List Nat} {fuel:Nat} {listed:Array Bool} {a:Act} {w:World} (hr:Region.ready md ops listed=rs) (hne:rs≠[])
  (h:∀ i∈rs,wpOp P ops Q i (fun a' w'=>(i∉ds->S w->S w')/\fI P md ops Q S ds fuel (listed.setIfInBounds i true) a' w') a w):fI P md ops Q S ds (fuel+1) listed a w :=
 ⟨fun h0=>absurd (hr ▸ h0) hne,hr ▸ h⟩
theorem afj {listed:Array Bool} {a:Act} {w:World} (hr:Region.ready md ops listed=[]) (h:Q .normal a w) :
  ∀ fuel,fI P md ops Q S ds fuel listed a w
 | 0=>⟨hr,h⟩
 | _+1=>⟨fun _=>h,by rw[hr];simp⟩
theorem afk {id:Nat} {a:Act} {w:World} (hm:P.follows .mixedOrders=true)
  (h:fI P .any ops Q S ds ops.size (Array.replicate ops.size false) a { w with drawn:=w.drawn+1 }):(Code.region id ops true).wp P Q a w :=
 wp_region_any hm (Xl _ _ _ _ h)
end
section
variable {P:Program} {ops:Array Oper} {Q:Exit->Act->World->Prop} {md:Region.Mode} {S:World->Prop} {ds:List Nat}
def vF (P:Program) (md:Region.Mode) (ops:Array Oper) (Q:Exit->Act->World->Prop) (S:World->Prop) (ds:List Nat) (fuel:Nat) (listed:Array Bool) (a:Act) (w:World) (rs:List Nat):Prop :=
 ∀ i∈rs,wpOp P ops Q i (fun a' w'=>(i∉ds->S w->S w')/\fI P md ops Q S ds fuel (listed.setIfInBounds i true) a' w') a w
theorem vF.nil {fuel:Nat} {listed:Array Bool} {a:Act} {w:World}:vF P md ops Q S ds fuel listed a w []:=fun _ h=>by cases h
theorem vF.cons {fuel:Nat} {listed:Array Bool} {a:Act} {w:World} {i:Nat} {o:Oper} {rs:List Nat} (ho:ops[i]?=some o) (hd:i∉ds)
  (h:∀ K':Act->World->Prop,Shut (∀ a w,S w->(S w->fI P md ops Q S ds fuel (listed.setIfInBounds i true) a w)->K' a w)->if Region.wanted o (yielded ops a.tmps)=true then Oper.wp P o a w K' Q else K' (a.put o.dst undef) w)
  (hs:vF P md ops Q S ds fuel listed a w rs):vF P md ops Q S ds fuel listed a w (i::rs):=fun j hj=>by
 rcases List.mem_cons.1 hj with rfl|hj
 ·exact wpOp_step ho (fun K' hK=>h K' (fun a w hS hW=>hK a w ⟨fun _ _=>hS,hW hS⟩))
 ·exact hs j hj
theorem Xi {rs:List Nat} {fuel:Nat} {listed:Array Bool} {a:Act} {w:World} (hr:Region.ready md ops listed=rs) (hne:rs≠[])
  (h:vF P md ops Q S ds fuel listed a w rs):fI P md ops Q S ds (fuel+1) listed a w:=afm hr hne h
theorem l9 {id n:Nat} {a:Act} {w:World} (l:Array Bool) (hm:P.follows .mixedOrders=true) (hn:ops.size=n) (hl:Array.replicate n false=l) (hS:S w.drew)
  (h:S w.drew->fI P .any ops Q S ds n l a w.drew):(Code.region id ops true).wp P Q a w:=by
 subst hn;subst hl;exact afk hm (h hS)
def Gu (md:Region.Mode) (ops:Array Oper) (ds:List Nat) (l l':Array Bool) (i:Nat):Bool :=
 Region.noSelect ops&&Region.free md ops l i&&(Region.ready md ops l).contains i&&Region.IY md ops l&&Region.NQ md ops l ds i&&(l.setIfInBounds i true==l')
theorem DU {i:Nat} {N:Option Tmp} {oi:Oper} {v:Value} {fuel:Nat} {l:Array Bool} {a:Act} {w:World} (l':Array Bool) (hi:ops[i]?=some oi) (hN:oi.dst=N) (hc:Gu md ops ds l l' i=true)
  (hQ:∀ c a w,Q (.panic c) (a.put oi.dst v) w->Q (.panic c) a w) (hy:YieldsIf P ops S oi v a) (hS:S w) {a':Act} (ha:a.put N v=a')
  (h:fI P md ops Q S ds fuel l' a' w):fI P md ops Q S ds (fuel+1) l a w:=by
 subst ha;subst hN;simp only[Gu,Bool.and_eq_true,beq_iff_eq]at hc;obtain⟨⟨⟨⟨⟨h1,h2⟩,h3⟩,h4⟩,h5⟩,h6⟩:=hc;subst h6;exact afi hi h1 h2 h3 h4 h5 hQ hy hS h
def J' (md:Region.Mode) (ops:Array Oper) (l l':Array Bool) (i:Nat):Bool :=
 Region.noSelect ops&&Region.free md ops l i&&(Region.ready md ops l).contains i&&(l.setIfInBounds i true==l')
theorem iq {i:Nat} {N:Option Tmp} {oi:Oper} {v:Value} {fuel:Nat} {l:Array Bool} {a:Act} {w:World} (l':Array Bool) (hi:ops[i]?=some oi) (hN:oi.dst=N) (hc:J' md ops l l' i=true)
  (hQ:∀ c a w,Q (.panic c) (a.put oi.dst v) w->Q (.panic c) a w) (hy:Yields P ops oi v a) {a':Act} (ha:a.put N v=a')
  (h:fI P md ops Q S ds fuel l' a' w):fI P md ops Q S ds (fuel+1) l a w:=by
 subst ha;subst hN;simp only[J',Bool.and_eq_true,beq_iff_eq]at hc;obtain⟨⟨⟨h1,h2⟩,h3⟩,h6⟩:=hc;subst h6;exact afl hi (Region.noSelect_spec h1) hQ fuel l a w (Region.free_spec hi h2) (by simpa using h3) hy h
def Ng (md:Region.Mode) (ops:Array Oper) (l l':Array Bool) (i:Nat):Bool:=(Region.ready md ops l==[i])&&(l.setIfInBounds i true==l')
theorem bH {i:Nat} {N:Option Tmp} {oi:Oper} {fuel:Nat} {l:Array Bool} {a:Act} {w:World} (l':Array Bool) (hi:ops[i]?=some oi) (hN:oi.dst=N) (hc:Ng md ops l l' i=true) (hd:i∉ds)
  (h:∀ K:Act->World->Prop,Shut (∀ a' w',S w'->(S w'->fI P md ops Q S ds fuel l' a' w')->K a' w')->if Region.wanted oi (yielded ops a.tmps)=true then Oper.wp P oi a w K Q else K (a.put N undef) w) :
  fI P md ops Q S ds (fuel+1) l a w:=by
 subst hN;simp only[Ng,Bool.and_eq_true,beq_iff_eq]at hc;obtain⟨h1,h2⟩:=hc;subst h2;exact Xi h1 (by simp) (vF.cons hi hd (fun K hK=>h K hK) vF.nil)
theorem mg {l:Array Bool} {a:Act} {w:World} {n:Nat} (hr:(Region.ready md ops l==[])=true) (h:Q .normal a w):fI P md ops Q S ds n l a w:=afj (by simpa using hr) h n
theorem sR {i j:Nat} {Ni Nj:Option Tmp} {oi oj:Oper} {fuel:Nat} {l:Array Bool} {a:Act} {w:World} (li lj:Array Bool) (hi:ops[i]?=some oi) (hj:ops[j]?=some oj) (hNi:oi.dst=Ni) (hNj:oj.dst=Nj)
  (hc:(Region.ready md ops l==[i,j]&&l.setIfInBounds i true==li&&l.setIfInBounds j true==lj)=true) (hdi:i∉ds) (hdj:j∉ds)
  (h1:∀ K:Act->World->Prop,Shut (∀ a' w',S w'->(S w'->fI P md ops Q S ds fuel li a' w')->K a' w')->if Region.wanted oi (yielded ops a.tmps)=true then Oper.wp P oi a w K Q else K (a.put Ni undef) w)
  (h2:∀ K:Act->World->Prop,Shut (∀ a' w',S w'->(S w'->fI P md ops Q S ds fuel lj a' w')->K a' w')->if Region.wanted oj (yielded ops a.tmps)=true then Oper.wp P oj a w K Q else K (a.put Nj undef) w) :
  fI P md ops Q S ds (fuel+1) l a w:=by
 subst hNi;subst hNj;simp only[Bool.and_eq_true,beq_iff_eq]at hc;obtain⟨⟨h3,h4⟩,h5⟩:=hc;subst h4;subst h5;exact Xi h3 (by simp) (vF.cons hi hdi (fun K hK=>h1 K hK) (vF.cons hj hdj (fun K hK=>h2 K hK) vF.nil))
def ij:Act->List (Tmp × Value)->Act
 | a,[]=>a
 | a,(n,v)::r=>ij (a.put (some n) v) r
theorem k5 {σ:Type} {fuel:Nat} {l:Array Bool} {a:Act} {w:World} (fuel':Nat) (l':Array Bool) (ns:σ->List (Tmp × Value)) (F:σ->World->Prop)
  (amF:∀ s w',F s w'->fI P md ops Q S ds fuel' l' (ij a (ns s)) w')
  (h:(∀ s w',F s w'->fI P md ops Q S ds fuel' l' (ij a (ns s)) w')->fI P md ops Q S ds fuel l a w):fI P md ops Q S ds fuel l a w:=h amF
theorem iW {fuel:Nat} {l:Array Bool} {a a':Act} {w:World} (ha:a=a') (h:fI P md ops Q S ds fuel l a' w):fI P md ops Q S ds fuel l a w:=by
 subst ha;exact h
theorem amG {oi:Oper} {N:Option Tmp} {a:Act} {w:World} {K:Act->World->Prop} (f:FuncId) (args:Array Value) (hw:Region.wanted oi (yielded ops a.tmps)=true) (hN:oi.dst=N) (hrun:(execOp a.eval oi).run P w = .ok (.enter f args) w)
  (h:Calls P f args w fun e w'=>∃ v,e = .returned v/\K (a.put N v) w'):if Region.wanted oi (yielded ops a.tmps)=true then Oper.wp P oi a w K Q else K (a.put N undef) w:=by
 rw[if_pos hw];subst hN;unfold Oper.wp;rw[hrun,Oper.upon_enter];refine h.mono fun e w'' hh=>?_;obtain⟨v,rfl,hk⟩:=hh;exact hk
theorem Yy {f:FuncId} {fn:Func} (hf:P.funcs[f]?=some fn) (hname:(fn.name=="runtime.NumGoroutine")=false) (hb:fn.body.isSome=true) (args:Array Value) (w:World):(callFunc f args).run P w = .ok (.enter f args) w:=by
 have h1:fn.name≠"runtime.NumGoroutine":=by simpa using hname
 obtain⟨c,hc⟩:=Option.isSome_iff_exists.1 hb;simp[callFunc,hf,h1,hc]
theorem amH {oi:Oper} {N:Option Tmp} {a:Act} {w:World} {K:Act->World->Prop} {f:FuncId} {fn:Func} {as:Array Operand} {ts:Array TypeId} (hf:P.funcs[f]?=some fn) (hname:(fn.name=="runtime.NumGoroutine")=false) (hb:fn.body.isSome=true) (args:Array Value)
  (hw:Region.wanted oi (yielded ops a.tmps)=true) (hN:oi.dst=N) (hop:oi.op = .call { callee := .value (.func f),args:=as,argTypes:=ts }) (hargs:as.map a.eval=args)
  (h:Calls P f args w fun e w'=>∃ v,e = .returned v/\K (a.put N v) w'):if Region.wanted oi (yielded ops a.tmps)=true then Oper.wp P oi a w K Q else K (a.put N undef) w:=by
 refine amG f args hw hN ?_ h;have he:=Yy hf hname hb args w;unfold execOp;simp[hop,resolve,Deferred.ofValue,invoke,Act.eval,hargs,he]
theorem alT {rest:List Oper} {oi:Oper} {a:Act} {w:World} (N:Option Tmp) (hd:oi.dst=N) (hg:oi.guard=none) {f:FuncId} {fn:Func} {as:Array Operand} {ts:Array TypeId} (hf:P.funcs[f]?=some fn) (hname:(fn.name=="runtime.NumGoroutine")=false) (hb:fn.body.isSome=true) (args:Array Value)
  (hop:oi.op = .call { callee := .value (.func f),args:=as,argTypes:=ts }) (hargs:as.map a.eval=args)
  (h:Calls P f args w fun e w'=>∃ v,e = .returned v/\wpList P ops Q rest (a.put N v) w'):wpList P ops Q (oi::rest) a w:=by
 refine wpList_plain hg fun K hK=>?_;have he:=Yy hf hname hb args w;have hrun:(execOp a.eval oi).run P w = .ok (.enter f args) w:=by
  unfold execOp;simp[hop,resolve,Deferred.ofValue,invoke,Act.eval,hargs,he]
 unfold Oper.wp;rw[hrun,Oper.upon_enter];refine h.mono fun e w'' hh=>?_;obtain⟨v,rfl,hk⟩:=hh;subst hd;exact hK _ _ hk
theorem qy {oi:Oper} {a:Act} {w w1:World} {K:Act->World->Prop} (hw:Region.wanted oi (yielded ops a.tmps)=true) (hN:oi.dst=none) (hrun:(execOp a.eval oi).run P w = .ok .skip w1)
  (h:K a w1):if Region.wanted oi (yielded ops a.tmps)=true then Oper.wp P oi a w K Q else K (a.put none undef) w:=by
 rw[if_pos hw];unfold Oper.wp;rw[hrun];show K (a.put oi.dst undef) w1;rw[hN];exact h
theorem dB (n:Int):IntKind.i64.wrap n=Go.RowKit.wrap64 n:=by unfold Go.RowKit.wrap64;exact IntKind.wrap_i64 n
theorem dD (n:Int):IntKind.i32.wrap n=Go.RowKit.wrap32 n:=by unfold Go.RowKit.wrap32;exact IntKind.wrap_i32 n
end
end Go.Proofs.aD.bO
namespace Go.Proofs.aD.bO
open Go.Proofs.aD.aY (aO)
def FV (md:Region.Mode) (o:Oper):List Nat:=(o.after.toList.filter (fun e=>Region.binds md e)).map (fun e=>e.on)
def RU (md:Region.Mode) (ops:Array Oper) (i:Nat) (oi:Oper):List Nat:=(List.range ops.size).filter fun j=>!(j==i)&&match ops[j]? with
 | some oj=>!(oj.after.any (fun e=>Region.binds md e&&e.on==i)||oi.apart ops oj)
 | none=>false
def gR (md:Region.Mode) (ops:Array Oper):Bool × List (List Nat × List Nat):=(Region.noSelect ops,(List.range ops.size).map fun i=>match ops[i]? with
 | some o=>(FV md o,RU md ops i o)
 | none=>([],[]))
def Bc (T:List (List Nat × List Nat)) (l:List Bool) (i:Nat):Bool:=!l.getD i true&&match T[i]? with
 | some r=>r.1.all (fun j=>l.getD j false)
 | none=>false
def Gm (T:List (List Nat × List Nat)) (l:List Bool):List Nat:=(List.range T.length).filter (Bc T l)
def JM (T:List (List Nat × List Nat)) (l:List Bool) (i:Nat):Bool:=match T[i]? with
 | some r=>r.2.all (fun j=>l.getD j true)
 | none=>false
def Mv (T:List (List Nat × List Nat)) (l:List Bool):Bool:=(List.range T.length).all fun j=>!l.getD j false||match T[j]? with
 | some r=>r.1.all (fun k=>l.getD k false)
 | none=>true
def Gn (T:List (List Nat × List Nat)) (i:Nat):Nat->Nat->Bool
 | 0,_=>false
 | fuel+1,d=>match T[d]? with
  | some r=>r.1.any fun j=>j==i||Gn T i fuel j
  | none=>false
def NR (T:List (List Nat × List Nat)) (l:List Bool) (ds:List Nat) (i:Nat):Bool:=ds.all fun d=>l.getD d true||Gn T i T.length d
section
variable {md:Region.Mode} {ops:Array Oper} {T:Bool × List (List Nat × List Nat)} {l l' li lj lk:Array Bool} {ds:List Nat} {i j k:Nat}
theorem gd (l:Array Bool) (j:Nat) (b:Bool):l.getD j b=l.toList.getD j b:=by simp[Array.getD_eq_getD_getElem?,List.getD_eq_getElem?_getD]
theorem XI (o:Oper) (p:Nat->Bool):o.after.all (fun e=>!Region.binds md e||p e.on)=(FV md o).all p:=by
 unfold FV;rw[<- Array.all_toList];induction o.after.toList with
 | nil=>rfl
 | cons e r ih =>
  rw[List.all_cons,ih,List.filter_cons];cases h:Region.binds md e <;> simp
theorem afQ (o:Oper) (p:Nat->Bool):o.after.any (fun e=>Region.binds md e&&p e.on)=(FV md o).any p:=by
 unfold FV;rw[<- Array.any_toList];induction o.after.toList with
 | nil=>rfl
 | cons e r ih =>
  rw[List.any_cons,ih,List.filter_cons];cases h:Region.binds md e <;> simp
theorem L_:(gR md ops).2.length=ops.size:=by simp[gR]
theorem Mc {o:Oper} (h:ops[i]?=some o):(gR md ops).2[i]?=some (FV md o,RU md ops i o):=by
 have hi:=(Array.getElem?_eq_some_iff.1 h).1;unfold gR;rw[List.getElem?_map,List.getElem?_range hi,Option.map_some,h]
theorem Md (h:ops[i]?=none):(gR md ops).2[i]?=none:=by
 have hi:ops.size<=i:=Array.getElem?_eq_none_iff.1 h;exact List.getElem?_eq_none (by rw[L_];exact hi)
theorem afz:Bc (gR md ops).2 l.toList i=(!l.getD i true&&((ops[i]?).map (·.after.all fun e=>!Region.binds md e||l.getD e.on false)).getD false):=by
 unfold Bc;rw[gd];cases h:ops[i]? with
 | none=>rw[Md h];rfl
 | some o =>
  rw[Mc h];simp only[Option.map_some,Option.getD_some];rw[<- XI];simp only[gd]
theorem Mk:Region.ready md ops l=Gm (gR md ops).2 l.toList:=by
 unfold Region.ready Gm;rw[L_];refine List.filter_congr (fun i _=>?_);rw[afz]
theorem free_eq:Region.free md ops l i=JM (gR md ops).2 l.toList i:=by
 unfold Region.free JM;cases h:ops[i]? with
 | none=>rw[Md h]
 | some oi =>
  rw[Mc h];simp only[RU];rw[List.all_filter];congr 1
  funext j
  rw[gd];cases hj:ops[j]? with
  | none=>cases (j==i) <;> cases (l.toList.getD j true) <;> simp
  | some oj =>
   cases (j==i) <;> cases (l.toList.getD j true) <;> cases (oj.after.any (fun e=>Region.binds md e&&e.on==i)||oi.apart ops oj) <;> simp_all
theorem closed_eq:Region.IY md ops l=Mv (gR md ops).2 l.toList:=by
 unfold Region.IY Mv;rw[L_];congr 1
 funext j
 rw[gd];cases h:ops[j]? with
 | none=>rw[Md h]
 | some o =>
  rw[Mc h];simp only;rw[<- XI];simp only[gd]
theorem reach_eq:∀ (fuel d:Nat),Region.uz md ops i fuel d=Gn (gR md ops).2 i fuel d
 | 0,_=>rfl
 | fuel+1,d=>by
  unfold Region.uz Gn
  cases h:ops[d]? with
  | none=>rw[Md h]
  | some o =>
   rw[Mc h]
   simp only
   rw[<- afQ]
   congr 1
   funext e
   rw[reach_eq fuel]
theorem last_eq:Region.NQ md ops l ds i=NR (gR md ops).2 l.toList ds i:=by
 unfold Region.NQ NR;rw[L_];congr 1
 funext d
 rw[gd,reach_eq]
theorem Xt (h:Bc T.2 l.toList i=true) (hT:gR md ops=T):(Region.ready md ops l).contains i=true:=by
 subst hT;rw[Mk];unfold Gm;rw[List.contains_iff_mem,List.mem_filter,List.mem_range];refine⟨?_,h⟩;unfold Bc at h;rw[Bool.and_eq_true]at h
 cases hq:(gR md ops).2[i]? with
 | none=>rw[hq]at h;simp at h
 | some r=>exact(List.getElem?_eq_some_iff.1 hq).1
theorem JA (h:(l.toList.set i true==l'.toList)=true):(l.setIfInBounds i true==l')=true:=by
 rw[beq_iff_eq]at h ⊢
 apply Array.ext';rw[Array.toList_setIfInBounds];exact h
def ab9 (T:Bool × List (List Nat × List Nat)) (l l':List Bool) (i:Nat):Bool:=T.1&&JM T.2 l i&&Bc T.2 l i&&(l.set i true==l')
theorem bf (hT:gR md ops=T) (h:ab9 T l.toList l'.toList i=true):J' md ops l l' i=true:=by
 simp only[ab9,Bool.and_eq_true]at h;obtain⟨⟨⟨h1,h2⟩,h3⟩,h4⟩:=h;have h5:=Xt h3 hT;have h6:=JA h4;subst hT;simp only[J',Bool.and_eq_true];exact⟨⟨⟨h1,by rw[free_eq];exact h2⟩,h5⟩,h6⟩
def Tq (T:Bool × List (List Nat × List Nat)) (ds:List Nat) (l l':List Bool) (i:Nat):Bool:=T.1&&JM T.2 l i&&Bc T.2 l i&&Mv T.2 l&&NR T.2 l ds i&&(l.set i true==l')
theorem ah5 (hT:gR md ops=T) (h:Tq T ds l.toList l'.toList i=true):Gu md ops ds l l' i=true:=by
 simp only[Tq,Bool.and_eq_true]at h;obtain⟨⟨⟨⟨⟨h1,h2⟩,h3⟩,h4⟩,h5⟩,h6⟩:=h;have h7:=Xt h3 hT;have h8:=JA h6;subst hT;simp only[Gu,Bool.and_eq_true];exact⟨⟨⟨⟨⟨h1,by rw[free_eq];exact h2⟩,h7⟩,by rw[closed_eq];exact h4⟩,by rw[last_eq];exact h5⟩,h8⟩
theorem bL (hT:gR md ops=T) (h:(Gm T.2 l.toList==[i]&&l.toList.set i true==l'.toList)=true):Ng md ops l l' i=true:=by
 simp only[Bool.and_eq_true]at h;obtain⟨h1,h2⟩:=h;subst hT;simp only[Ng,Bool.and_eq_true];exact⟨by rw[Mk];exact h1,JA h2⟩
theorem qw (hT:gR md ops=T) (h:(Gm T.2 l.toList==[i,j]&&l.toList.set i true==li.toList&&l.toList.set j true==lj.toList)=true):(Region.ready md ops l==[i,j]&&l.setIfInBounds i true==li&&l.setIfInBounds j true==lj)=true:=by
 simp only[Bool.and_eq_true]at h ⊢;obtain⟨⟨h1,h2⟩,h3⟩:=h;subst hT;exact⟨⟨by rw[Mk];exact h1,JA h2⟩,JA h3⟩
theorem nH (hT:gR md ops=T) (h:(Gm T.2 l.toList==[])=true):(Region.ready md ops l==[])=true:=by
 subst hT;rw[Mk];exact h
def EG (B:List Nat) (d:Nat):List Nat->Nat
 | []=>0
 | n::r=>(2^n ||| (if n<d then B.getD n 0 else 0)) ||| EG B d r
def nI (T:List (List Nat × List Nat)) (B:List Nat):Bool:=(List.range T.length).all fun d=>match T[d]? with
 | some r=>(B.getD d 0 ||| EG B d r.1)==EG B d r.1
 | none=>false
theorem Yz {B:List Nat} {d i:Nat}:∀ {ns:List Nat},(EG B d ns).testBit i=true->∃ n∈ns,n=i\/(n<d/\(B.getD n 0).testBit i=true)
 | [],h=>by simp[EG]at h
 | n::r,h=>by
  unfold EG at h
  rw[Nat.testBit_or,Nat.testBit_or,Bool.or_eq_true,Bool.or_eq_true]at h
  rcases h with (h|h)|h
  ·rw[Nat.testBit_two_pow]at h
   exact⟨n,List.mem_cons_self,.inl (by simpa using h)⟩
  ·by_cases hn:n<d
   ·rw[if_pos hn]at h
    exact⟨n,List.mem_cons_self,.inr ⟨hn,h⟩⟩
   ·rw[if_neg hn]at h
    simp at h
  ·obtain⟨m,hm,h2⟩:=Yz h
   exact⟨m,List.mem_cons_of_mem _ hm,h2⟩
theorem XJ {T:List (List Nat × List Nat)} {B:List Nat} (hB:nI T B=true):∀ (fuel d:Nat),d<fuel->d<T.length->(B.getD d 0).testBit i=true->Gn T i fuel d=true
 | 0,d,h,_,_=>by omega
 | fuel+1,d,h,hd,hb=>by
  have h1:=List.all_eq_true.1 hB d (List.mem_range.2 hd)
  cases hr:T[d]? with
  | none=>rw[hr]at h1;simp at h1
  | some r =>
   rw[hr]at h1
   simp only[beq_iff_eq]at h1
   have h2:(EG B d r.1).testBit i=true:=by rw[<- h1,Nat.testBit_or,hb,Bool.true_or]
   obtain⟨n,hn,h3⟩:=Yz h2
   unfold Gn
   rw[hr]
   simp only
   rw[List.any_eq_true]
   refine⟨n,hn,?_⟩
   rcases h3 with rfl|⟨h4,h5⟩
   ·simp
   ·rw[XJ hB fuel n (by omega) (by omega) h5,Bool.or_true]
def aaA (T:List (List Nat × List Nat)) (B:List Nat) (l:List Bool) (ds:List Nat) (i:Nat):Bool:=ds.all fun d=>l.getD d true||(decide (d<T.length)&&(B.getD d 0).testBit i)
def aaB (T:Bool × List (List Nat × List Nat)) (B ds:List Nat) (l l':List Bool) (i:Nat):Bool:=T.1&&JM T.2 l i&&Bc T.2 l i&&Mv T.2 l&&aaA T.2 B l ds i&&(l.set i true==l')
theorem cH {B:List Nat} (hT:gR md ops=T) (hB:nI T.2 B=true) (h:aaB T B ds l.toList l'.toList i=true):Gu md ops ds l l' i=true:=by
 refine ah5 hT ?_;simp only[aaB,Tq,Bool.and_eq_true]at h ⊢;obtain⟨⟨⟨⟨⟨h1,h2⟩,h3⟩,h4⟩,h5⟩,h6⟩:=h;refine⟨⟨⟨⟨⟨h1,h2⟩,h3⟩,h4⟩,?_⟩,h6⟩;unfold aaA at h5;unfold NR;rw[List.all_eq_true]at h5 ⊢
 intro d hd;have h7:=h5 d hd;rw[Bool.or_eq_true,Bool.and_eq_true,decide_eq_true_eq]at h7
 rcases h7 with h7|⟨h8,h9⟩
 ·rw[h7,Bool.true_or]
 ·rw[XJ hB _ d h8 h8 h9,Bool.or_true]
theorem nD {P:Program} {Q:Exit->Act->World->Prop} {S:World->Prop} {n:Nat} {a:Act} {w:World} {B:List Nat} (hT:gR md ops=T) (hB:nI T.2 B=true) (h:aO (gR md ops=T)->aO (nI T.2 B=true)->fI P md ops Q S ds n l a w):fI P md ops Q S ds n l a w:=h ⟨hT⟩ ⟨hB⟩
end
def xz:Code->Nat->Option (Array Oper)
 | .region id ops _,k=>if id==k then some ops else none
 | .seq a b,k=>match xz a k with
  | some o=>some o
  | none=>xz b k
 | .cond _ a b,k=>match xz a k with
  | some o=>some o
  | none=>xz b k
 | .block _ c,k=>xz c k
 | .loop c,k=>xz c k
 | .scope c,k=>xz c k
 | .rangeFunc _ _ a b,k=>match xz a k with
  | some o=>some o
  | none=>xz b k
 | _,_=>none
def opsOf (f:Func) (k:Nat):Array Oper:=((f.body.bind fun c=>xz c k)).getD #[]
end Go.Proofs.aD.bO
namespace Go.Proofs.aD.aY
open Go.RowKit
namespace Kd
def tag {α:Type} (f:Nat->Nat) (d:Kd α):Kd (α × Nat) where
 sz:=d.sz
 E:=d.E
 K:=fun w x cs=>d.K w x.1 cs
 M:=fun w base ok x cs=>d.M w base (fun k=>ok k/\f k=x.2) x.1 cs
 uC:=fun h=>d.uC h
 tB:=fun h=>d.tB h
 pM:=fun hb h=>d.pM hb h
 tA:=fun h=>d.tA h
 nL:=fun hok h=>d.nL (fun k hk=>⟨hok k hk.1,hk.2⟩) h
 qZ:=fun h=>d.nL (fun _ hk=>⟨⟨hk.1.1,hk.2⟩,hk.1.2⟩) (d.qZ h)
 sM:=fun hm h=>d.sM (fun k hk=>hm k hk.1) h
 tq:=fun hb h=>d.tq hb h
def raw (sz:Nat):Kd (List Value) where
 sz:=sz
 E:=[]
 K:=fun _ x cs=>cs=x/\cs.length=sz/\∀ u∈cs,u.oneCell'=true
 M:=fun _ _ _ x cs=>cs=x/\cs.length=sz/\∀ u∈cs,u.oneCell'=true
 uC:=fun h=>h.2.1
 tB:=fun h=>h.2.2
 pM:=fun _ h=>h
 tA:=fun h=>h
 nL:=fun _ h=>h
 qZ:=fun h=>h
 sM:=fun _ h=>h
 tq:=fun _ h=>h
def S {α:Type} (d:Kd α) (e:Nat) (w:World) (base:Nat) (ok:Nat->Prop) (v:Value) (xs:List α):Prop:=∃ f,(tag f d).R e w base ok v xs.zipIdx
def gap {α:Type} (f:Nat->Nat) (d:Kd α) (i:Nat) (c:List Value):Kd (α × Nat) where
 sz:=d.sz
 E:=d.E
 K:=fun w x cs=>(x.2=i->cs=c/\cs.length=d.sz/\∀ u∈cs,u.oneCell'=true)/\(x.2≠i->d.K w x.1 cs)
 M:=fun w base ok x cs=>(x.2=i->cs=c/\cs.length=d.sz/\∀ u∈cs,u.oneCell'=true)/\(x.2≠i->d.M w base (fun k=>ok k/\f k=x.2) x.1 cs)
 uC:=fun {w x cs} h=>by
  by_cases hx:x.2=i
  ·exact(h.1 hx).2.1
  ·exact d.uC (h.2 hx)
 tB:=fun {w x cs} h=>by
  by_cases hx:x.2=i
  ·exact(h.1 hx).2.2
  ·exact d.tB (h.2 hx)
 pM:=fun hb h=>⟨h.1,fun hx=>d.pM hb (h.2 hx)⟩
 tA:=fun h=>⟨h.1,fun hx=>d.tA (h.2 hx)⟩
 nL:=fun hok h=>⟨h.1,fun hx=>d.nL (fun k hk=>⟨hok k hk.1,hk.2⟩) (h.2 hx)⟩
 qZ:=fun h=>⟨h.1,fun hx=>d.nL (fun _ hk=>⟨⟨hk.1.1,hk.2⟩,hk.1.2⟩) (d.qZ (h.2 hx))⟩
 sM:=fun hm h=>⟨h.1,fun hx=>d.sM (fun k hk=>hm k hk.1) (h.2 hx)⟩
 tq:=fun hb h=>⟨h.1,fun hx=>d.tq hb (h.2 hx)⟩
def H {α:Type} (d:Kd α) (e:Nat) (w:World) (base:Nat) (ok:Nat->Prop) (v:Value) (xs:List α) (i:Int) (oki:Nat->Prop) (c:List Value):Prop :=
 (∀ k,oki k->ok k)/\∃ f,(gap f d i.toNat c).R e w base (fun k=>ok k/\¬ oki k) v xs.zipIdx
end Kd
end Go.Proofs.aD.aY
namespace Go.Proofs.aD.aY
open Go.RowKit
namespace Kd
structure Heap {α:Type} (d:Kd α):Prop where
 K:∀ {w w1:World} {x:α} {cs:List Value},(∀ k,k<w.heap.size->w1.heap[k]?=w.heap[k]?)->d.K w x cs->d.K w1 x cs
theorem afR {w w1:World} (hb:∀ k,k<w.heap.size->w1.heap[k]?=w.heap[k]?) {a:Addr} {v:Value} (h:w.cell? a=some v):w1.cell? a=some v:=by
 have:=hb a.block (World.block_lt_of_cell? w a h);simpa [World.cell?,this] using h
theorem Heap.C {α:Type} {d:Kd α} (hd:Heap d) {w w1:World} {A:Option Addr} {n:Nat} {xs:List α} (hb:∀ k,k<w.heap.size->w1.heap[k]?=w.heap[k]?) (h:d.C w A n xs):d.C w1 A n xs :=
 ⟨h.1,h.2.1,fun hn=>by
  obtain⟨ad,e,hc⟩:=h.2.2 hn
  refine⟨ad,e,fun j p hj=>?_⟩
  obtain⟨c,hs,hr,hcell⟩:=hc j p hj
  exact⟨c,hs,hd.K hb hr,fun i u hu=>afR hb (hcell i u hu)⟩⟩
end Kd
end Go.Proofs.aD.aY
namespace Go.Proofs.aD.aY
open Go.RowKit
def Kept (w W:World) (S:Nat->Prop):Prop:=w.heap.size<=W.heap.size/\∀ i,i<w.heap.size->¬ S i->W.heap[i]?=w.heap[i]?
section
variable {w W W2:World} {S S2 S':Nat->Prop}
theorem Kept.refl (w:World) (S:Nat->Prop):Kept w w S:=⟨Nat.le_refl _,fun _ _ _=>rfl⟩
theorem Kept.X4 (h:Below w.heap.size w W) (S:Nat->Prop):Kept w W S:=⟨h.size,fun i hi _=>h.block i hi⟩
theorem Kept.mono (h:Kept w W S) (hs:∀ k,S k->S' k):Kept w W S':=⟨h.1,fun i hi hn=>h.2 i hi (fun hk=>hn (hs i hk))⟩
theorem Kept.aaC (h:Kept w W S) (k:Kept W W2 S2) (hs:∀ k,S2 k->S k\/w.heap.size<=k):Kept w W2 S :=
 ⟨Nat.le_trans h.1 k.1,fun i hi hn=>(k.2 i (Nat.lt_of_lt_of_le hi h.1) (fun h2=>(hs i h2).elim hn (fun h3=>by omega))).trans (h.2 i hi hn)⟩
theorem Kept.below (h:Kept w W S) (hb:Below W.heap.size W W2):Kept w W2 S:=h.aaC (Kept.X4 hb (fun _=>False)) (fun _ hk=>hk.elim)
theorem Kept.alloc (h:Kept w W S) (o:Obj):Kept w (W.alloc o) S:=h.below (ym (Below.refl _ _) o)
theorem Kept.drew (h:Kept w W S):Kept w W.drew S:=h
theorem Kept.drewN (h:Kept w W S) (m:Nat):Kept w (W.drewN m) S:=h
theorem Kept.setCell (h:Kept w W S) {p:Addr} (hp:S p.block\/w.heap.size<=p.block) (u:Value):Kept w (W.setCell p u) S :=
 h.aaC (S2:=fun k=>k=p.block) ⟨by simp[World.setCell],fun i _ hn=>Below.heap_setCell W p u i hn⟩ (fun k hk=>by rw[hk];exact hp)
end
end Go.Proofs.aD.aY
namespace Go.Proofs.aD.aY
open Go.RowKit
def uM (P:World->Prop) (W:World) (ok:Nat->Prop):Prop:=∀ W':World,(∀ k,ok k->k<W.heap.size->W'.heap[k]?=W.heap[k]?)->P W'
theorem ah6 {W W1:World} {k:Nat} (h:W1.heap[k]?=W.heap[k]?) (hlt:k<W.heap.size):k<W1.heap.size:=by
 rw[Array.getElem?_eq_getElem hlt]at h
 exact(Array.getElem?_eq_some_iff.1 h).1
namespace uM
variable {P Q:World->Prop} {W W1:World} {ok ok':Nat->Prop}
theorem mono (h:uM P W ok) (hok:∀ k,ok k->ok' k):uM P W ok':=fun W' hW=>h W' (fun k hk hlt=>hW k (hok k hk) hlt)
theorem bound (h:uM P W ok):uM P W (fun k=>ok k/\k<W.heap.size):=fun W' hW=>h W' (fun k hk hlt=>hW k ⟨hk,hlt⟩ hlt)
theorem step (h:uM P W ok) (hm:∀ k,ok k->k<W.heap.size->W1.heap[k]?=W.heap[k]?):uM P W1 ok:=fun W' hW=>h W' (fun k hk hlt=>(hW k hk (ah6 (hm k hk hlt) hlt)).trans (hm k hk hlt))
theorem old (h:uM P W ok) (hb:Below W.heap.size W W1):uM P W1 (fun k=>ok k/\k<W.heap.size):=(h.bound).step (fun k _ hlt=>hb.block k hlt)
end uM
namespace Kd
def F {α:Type} (d:Kd α) (W:World) (ok:Nat->Prop) (A:Option Addr) (n:Nat) (xs:List α):Prop:=uM (fun W=>d.C W A n xs) W ok
def FK {α:Type} (d:Kd α) (W:World) (ok:Nat->Prop) (x:α) (c:List Value):Prop:=uM (fun W=>d.K W x c) W ok
end Kd
end Go.Proofs.aD.aY
namespace Go.Proofs.aD.aY
open Go.RowKit
namespace Kd
section
variable {α:Type} {d:Kd α} {e base n cc g:Nat} {ok ok' rV S:Nat->Prop} {w w1 W W1:World} {A:Option Addr} {u v v1:Value} {xs:List α} {x:α} {c:List Value}
def N {α:Type} (d:Kd α) (e:Nat) (w:World) (base:Nat) (ok:Nat->Prop) (v:Value) (xs:List α):Prop :=
 (∀ k,v.ownBlock=some k->ok k)/\∃ rows:List (List Value),rows.length=xs.length/\(raw d.sz).R e w base (fun k=>some k=v.ownBlock) v rows/\∀ (j:Nat) (x:α) (c:List Value),xs[j]?=some x->rows[j]?=some c->FK d w (fun k=>ok k/\some k≠v.ownBlock) x c
end
end Kd
end Go.Proofs.aD.aY
namespace Go.Proofs.aD.aY
open Go.RowKit
section
variable {P:Program} {d:Nat} {xs ys:Array Value} {f:Field} {fs:List Field} {a b:Value} {r s:Bool} {w:World}
theorem Ml (hn:(f.name=="_")=false) (ha:(part f.type xs f.offset).run P w = .ok a w) (hb:(part f.type ys f.offset).run P w = .ok b w) (he:(Op.equalIn d f.type a b).run P w = .ok r w):(Op.eqFields d xs ys [f]).run P w = .ok r w:=by
 have hn':f.name≠"_":=by simpa using hn
 simp only[Op.eqFields,if_pos hn',Sem.run_bind,ha,hb,he,Result.andThen_ok];cases r <;> simp
theorem IV (hn:(f.name=="_")=false) (ha:(part f.type xs f.offset).run P w = .ok a w) (hb:(part f.type ys f.offset).run P w = .ok b w) (he:(Op.equalIn d f.type a b).run P w = .ok r w) (hr:(Op.eqFields d xs ys fs).run P w = .ok s w):(Op.eqFields d xs ys (f::fs)).run P w = .ok (r&&s) w:=by
 have hn':f.name≠"_":=by simpa using hn
 rw[Op.eqFields];simp only[if_pos hn',Sem.run_bind,ha,hb,he,Result.andThen_ok];cases r
 ·simp
 ·simpa using hr
theorem Nh {t:TypeId} {fs:Array Field} (hu:P.underlying t=some (.struct fs)) (hp:P.stoodInHeld t=false) (h:(Op.eqFields d xs ys fs.toList).run P w = .ok r w):(Op.equalIn (d+1) t (.agg xs) (.agg ys)).run P w = .ok r w:=by
 have hf:P.fieldsOf t=fs:=by simp[Program.fieldsOf,hu]
 rw[run_equalIn_struct (P:=P) w d t xs ys (by rw[hf];exact hu) hp,hf];exact h
end
end Go.Proofs.aD.aY
namespace Go.Proofs.aD.aY
theorem bp.one {α:Type} {R:α->List Value->Prop} {ps:List α} {cs:List Value} {p:α} {v:Value} (hp:R p [v]) (h:bp R 1 ps cs):bp R 1 (p::ps) (v::cs):=by
 refine⟨by simp[h.1],fun j q hq=>?_⟩;cases j with
 | zero =>
  simp only[List.getElem?_cons_zero,Option.some.injEq]at hq;subst hq;simpa using hp
 | succ j =>
  simp only[List.getElem?_cons_succ]at hq;have h1:=h.2 j q hq;simpa [Nat.mul_one] using h1
theorem bp.front {α:Type} {R:α->List Value->Prop} {size:Nat} {ps:List α} {cs c all:List Value} {p:α} (hp:R p c) (hc:c.length=size) (h:bp R size ps cs) (ha:c++cs=all):bp R size (p::ps) all:=by
 subst ha;refine⟨by rw[List.length_append,hc,h.1,List.length_cons,Nat.succ_mul,Nat.add_comm],fun j q hq=>?_⟩;cases j with
 | zero =>
  simp only[List.getElem?_cons_zero,Option.some.injEq]at hq;subst hq;rw[Nat.zero_mul,List.drop_zero,List.take_append_of_le_length (by omega),List.take_of_length_le (by omega)];exact hp
 | succ j =>
  simp only[List.getElem?_cons_succ]at hq;have h1:=h.2 j q hq;rw[Nat.succ_mul,List.drop_append,List.drop_of_length_le (by rw[hc];exact Nat.le_add_left _ _),List.nil_append,hc,Nat.add_sub_cancel];exact h1
theorem bp.c2 {α:Type} {R:α->List Value->Prop} {ps:List α} {cs:List Value} {p:α} {va vb:Value} (hp:R p [va,vb]) (h:bp R 2 ps cs):bp R 2 (p::ps) (va::vb::cs):=bp.front hp rfl h rfl
theorem bp.c3 {α:Type} {R:α->List Value->Prop} {ps:List α} {cs:List Value} {p:α} {va vb vc:Value} (hp:R p [va,vb,vc]) (h:bp R 3 ps cs):bp R 3 (p::ps) (va::vb::vc::cs):=bp.front hp rfl h rfl
theorem bp.c4 {α:Type} {R:α->List Value->Prop} {ps:List α} {cs:List Value} {p:α} {va vb vc vd:Value} (hp:R p [va,vb,vc,vd]) (h:bp R 4 ps cs):bp R 4 (p::ps) (va::vb::vc::vd::cs):=bp.front hp rfl h rfl
theorem bp.c5 {α:Type} {R:α->List Value->Prop} {ps:List α} {cs:List Value} {p:α} {va vb vc vd ve:Value} (hp:R p [va,vb,vc,vd,ve]) (h:bp R 5 ps cs):bp R 5 (p::ps) (va::vb::vc::vd::ve::cs):=bp.front hp rfl h rfl
theorem bp.c6 {α:Type} {R:α->List Value->Prop} {ps:List α} {cs:List Value} {p:α} {va vb vc vd ve vf:Value} (hp:R p [va,vb,vc,vd,ve,vf]) (h:bp R 6 ps cs):bp R 6 (p::ps) (va::vb::vc::vd::ve::vf::cs):=bp.front hp rfl h rfl
theorem bp.c7 {α:Type} {R:α->List Value->Prop} {ps:List α} {cs:List Value} {p:α} {va vb vc vd ve vf vg:Value} (hp:R p [va,vb,vc,vd,ve,vf,vg]) (h:bp R 7 ps cs):bp R 7 (p::ps) (va::vb::vc::vd::ve::vf::vg::cs):=bp.front hp rfl h rfl
theorem bp.c8 {α:Type} {R:α->List Value->Prop} {ps:List α} {cs:List Value} {p:α} {va vb vc vd ve vf vg vh:Value} (hp:R p [va,vb,vc,vd,ve,vf,vg,vh]) (h:bp R 8 ps cs):bp R 8 (p::ps) (va::vb::vc::vd::ve::vf::vg::vh::cs):=bp.front hp rfl h rfl
theorem bp.c9 {α:Type} {R:α->List Value->Prop} {ps:List α} {cs:List Value} {p:α} {va vb vc vd ve vf vg vh vi:Value} (hp:R p [va,vb,vc,vd,ve,vf,vg,vh,vi]) (h:bp R 9 ps cs):bp R 9 (p::ps) (va::vb::vc::vd::ve::vf::vg::vh::vi::cs):=bp.front hp rfl h rfl
theorem bp.c10 {α:Type} {R:α->List Value->Prop} {ps:List α} {cs:List Value} {p:α} {va vb vc vd ve vf vg vh vi vj:Value} (hp:R p [va,vb,vc,vd,ve,vf,vg,vh,vi,vj]) (h:bp R 10 ps cs):bp R 10 (p::ps) (va::vb::vc::vd::ve::vf::vg::vh::vi::vj::cs):=bp.front hp rfl h rfl
end Go.Proofs.aD.aY
namespace Go.Proofs.aD.bO
def up (b:Nat->Bool) (i:Nat):Nat->Bool:=fun j=>if j=i then true else b j
end Go.Proofs.aD.bO
namespace Go.Proofs.aD.aY
open Go.RowKit
section
variable {P:Program} {ops:Array Oper} {rest:List Oper} {o:Oper} {a:Act} {Q:Exit->Act->World->Prop} {W:World}
theorem C6 (hw:Region.wanted o (yielded ops a.tmps)=true) (h:wpList P ops Q ({ o with guard:=none }::rest) a W):wpList P ops Q (o::rest) a W:=by
 have h1:Region.wanted { o with guard:=none } (yielded ops a.tmps)=true:=rfl;unfold wpList at h ⊢;rw[if_pos h1]at h
 rw[if_pos hw];exact h
end
end Go.Proofs.aD.aY
namespace Go.Proofs.aD.bT
open Go.RowKit Go.Proofs.aD.aY
theorem ct (k k':IntKind) (x y:Int):Builtin.max2 (.int k x) (.int k' y)=pure (.int k (if x<y then y else x)):=by simp only[Builtin.max2,gt_iff_lt]
theorem cu (k k':IntKind) (x y:Int):Builtin.min2 (.int k x) (.int k' y)=pure (.int k (if y<x then y else x)):=by simp only[Builtin.min2]
theorem cA (ats:Array TypeId) (ty:TypeId) (a b:Value):Builtin.max_ ats ty #[a,b]=(Builtin.max2 a b >>= fun s=>pure s):=by simp only[Builtin.max_,List.foldlM_cons,List.foldlM_nil]
theorem cC (ats:Array TypeId) (ty:TypeId) (a b:Value):Builtin.min_ ats ty #[a,b]=(Builtin.min2 a b >>= fun s=>pure s):=by simp only[Builtin.min_,List.foldlM_cons,List.foldlM_nil]
theorem ck (ats:Array TypeId) (ty:TypeId) (a b c:Value):Builtin.max_ ats ty #[a,b,c]=(Builtin.max2 a b >>= fun s=>Builtin.max2 s c >>= fun s=>pure s):=by simp only[Builtin.max_,List.foldlM_cons,List.foldlM_nil]
theorem cm (ats:Array TypeId) (ty:TypeId) (a b c:Value):Builtin.min_ ats ty #[a,b,c]=(Builtin.min2 a b >>= fun s=>Builtin.min2 s c >>= fun s=>pure s):=by simp only[Builtin.min_,List.foldlM_cons,List.foldlM_nil]
theorem cw (ats:Array TypeId) (ty:TypeId) (a b c d:Value):Builtin.max_ ats ty #[a,b,c,d]=(Builtin.max2 a b >>= fun s=>Builtin.max2 s c >>= fun s=>Builtin.max2 s d >>= fun s=>pure s):=by simp only[Builtin.max_,List.foldlM_cons,List.foldlM_nil]
theorem cz (ats:Array TypeId) (ty:TypeId) (a b c d:Value):Builtin.min_ ats ty #[a,b,c,d]=(Builtin.min2 a b >>= fun s=>Builtin.min2 s c >>= fun s=>Builtin.min2 s d >>= fun s=>pure s):=by simp only[Builtin.min_,List.foldlM_cons,List.foldlM_nil]
end Go.Proofs.aD.bT
namespace Go.Proofs.aD.aY
open Go.RowKit
section
variable {P:Program} {ops:Array Oper} {rest:List Oper} {o:Oper} {a:Act} {Q:Exit->Act->World->Prop} {W:World}
theorem cW {f:FuncId} {as:Array Operand} {ts:Array TypeId} (_ho:o.op = .call { callee := .value (.func f),args:=as,argTypes:=ts }) (h:wpList P ops Q (o::rest) a W):wpList P ops Q (o::rest) a W:=h
end
def mn (a b:Int):Int:=if b<a then b else a
def shl (k:IntKind) (x y:Int):Int:=k.wrap (x*2^min y.toNat k.bits)
theorem qk {p:Prop} (h:p:=by kernel_rfl):p:=h
theorem qo {p:Prop} (h:p:=by omega):p:=h
theorem qd {p:Prop} (h:p:=by decide):p:=h
theorem qh {p:Prop} (h:p):Go.RowKit.Hid p:=h
theorem qa {p:Prop} (h:p):aO p:=⟨h⟩
theorem ql {w:World} {a:Addr} {u:Value} (h:w.cell? a=some u):a.block<w.heap.size:=World.block_lt_of_cell? w a h
end Go.Proofs.aD.aY
