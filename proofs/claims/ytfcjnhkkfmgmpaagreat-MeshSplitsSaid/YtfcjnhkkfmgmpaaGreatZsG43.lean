import Derived.Laws.CopyOwn
import Derived.Test.YtfcjnhkkfmgmpaaGreatZsG42
set_option linter.all false
set_option maxRecDepth 100000
set_option maxHeartbeats 8000000
namespace Go.Proofs.YtfcjnhkkfmgmpaaGreat
open Go.RowKit aR Go.Proofs.aC.R Go.Proofs.aC.Z Go.Proofs.aD.bf
def CR (w:World) (A:Option Addr) (m:Nat) (cs:List Value):Prop:=0<m→∃ ad,A=some ad∧∀ j u,cs[j]?=some u→w.cell? (ad.add j)=some u
theorem CR.below {w w':World} {A:Option Addr} {m:Nat} {cs:List Value} {b:Nat} (h:CR w A m cs) (hb:Below b w w') (hz:b=w.heap.size):CR w' A m cs:=by
 intro h0;obtain⟨ad,e,hc⟩:=h h0;refine⟨ad,e,fun j u hj=>?_⟩;exact(hb.cell (by rw[hz];exact ql (hc j u hj))).trans (hc j u hj)
def mh (zs:List Int):List Value:=zs.map (fun x=>Value.int .i64 x)
theorem IR.cr {w:World} {A:Option Addr} {m n:Nat} {zs:List Int} (h:IR w A m zs) (hl:zs.length=m) (hn:0<n→0<m):CR w A n (mh zs):=by
 intro h0;obtain⟨ad,e,hc⟩:=h (hn h0);refine⟨ad,e,fun j u hj=>?_⟩;unfold mh at hj;rw[List.getElem?_map]at hj
 obtain⟨x,hx,rfl⟩:=Option.map_eq_some_iff.1 hj;obtain⟨hlt,hxe⟩:=List.getElem?_eq_some_iff.1 hx;have:=hc j (by omega);rw[List.getD_eq_getElem?_getD,hx]at this
 exact this
theorem MF {α:Type} {d:Kd α} {w:World} {A:Option Addr} {n:Nat} {xs:List α} (h:d.C w A n xs):∃ cs,bk (d.K w) d.sz xs cs∧CR w A n cs:=by
 have hl:=h.1;cases A with
 | none =>
  have:n=0:=by
   rcases Nat.eq_zero_or_pos n with h0|h0
   ·exact h0
   ·obtain⟨ad,e,_⟩:=h.2.2 h0
    cases e
  subst this;obtain rfl:xs=[]:=List.eq_nil_of_length_eq_zero hl;exact⟨[],bk.none _ _,fun h0=>absurd h0 (Nat.lt_irrefl 0)⟩
 | some ad =>
  have hrow:∀ j p,xs[j]?=some p→∃ c,c.length=d.sz∧d.K w p c∧∀ i u,c[i]?=some u→w.cell? (ad.add (j*d.sz+i))=some u:=by
   intro j p hj;obtain⟨hlt,-⟩:=List.getElem?_eq_some_iff.1 hj;obtain⟨yG,e,hc⟩:=h.2.2 (by omega);obtain rfl:=Option.some.inj e;exact hc j p hj
  have hcell:∀ q,q<n*d.sz→∃ u,w.cell? (ad.add q)=some u:=by
   intro q hq;have h0:0<d.sz:=by
    rcases Nat.eq_zero_or_pos d.sz with h0|h0
    ·rw[h0,Nat.mul_zero]at hq;omega
    ·exact h0
   have iZ:q / d.sz<xs.length:=by rw[Nat.div_lt_iff_lt_mul h0,hl];exact hq
   obtain⟨c,cj,-,hc⟩:=hrow (q / d.sz) _ (List.getElem?_eq_getElem iZ);have hm:q%d.sz<c.length:=by rw[cj];exact Nat.mod_lt _ h0
   have:=hc (q%d.sz) _ (List.getElem?_eq_getElem hm);rw[Nat.mul_comm,Nat.div_add_mod]at this
   exact⟨_,this⟩
  refine⟨(List.range (n*d.sz)).map (fun q=>(w.cell? (ad.add q)).getD (.bool false)),⟨by simp[hl],fun j p hj=>?_⟩,fun _=>⟨ad,rfl,fun j u hj=>?_⟩⟩
  ·obtain⟨hlt,-⟩:=List.getElem?_eq_some_iff.1 hj
   obtain⟨c,cj,hK,hc⟩:=hrow j p hj;have hle:(j+1)*d.sz≤n*d.sz:=Nat.mul_le_mul_right _ (by omega);rw[Nat.add_mul,Nat.one_mul]at hle
   have:(((List.range (n*d.sz)).map (fun q=>(w.cell? (ad.add q)).getD (.bool false))).drop (j*d.sz)).take d.sz=c:=by
    apply List.ext_getElem?;intro i;rw[List.getElem?_take];split
    ·rename_i hi
     rw[List.getElem?_drop,List.getElem?_map,List.getElem?_range (by omega),List.getElem?_eq_getElem (by omega)];simp only[Option.map_some];rw[hc i _ (List.getElem?_eq_getElem (by omega))];rfl
    ·rw[List.getElem?_eq_none (by omega)]
   rw[this];exact hK
  ·rw[List.getElem?_map]at hj
   obtain⟨q,hq,rfl⟩:=Option.map_eq_some_iff.1 hj;obtain⟨hlt,hqe⟩:=List.getElem?_eq_some_iff.1 hq;simp at hlt hqe;subst hqe;obtain⟨u,hu⟩:=hcell j hlt;rw[hu];rfl
theorem Mj {α:Type} {d:Kd α} {w:World} {xs:List α} {cs:List Value} (h:bk (d.K w) d.sz xs cs) (h0:0<d.sz):∀ u∈cs,u.oneCell'=true:=by
 intro u hu;obtain⟨q,hq,rfl⟩:=List.mem_iff_getElem.1 hu;have iZ:q / d.sz<xs.length:=by
  rw[Nat.div_lt_iff_lt_mul h0,← h.1];exact hq
 have hc:=h.2 (q / d.sz) _ (List.getElem?_eq_getElem iZ);refine d.qx hc _ ?_;rw[List.mem_iff_getElem?];refine⟨q%d.sz,?_⟩;rw[List.getElem?_take,if_pos (Nat.mod_lt _ h0),List.getElem?_drop,Nat.mul_comm,Nat.div_add_mod,List.getElem?_eq_getElem hq]
theorem LR (zs:List Int):∀ u∈mh zs,u.oneCell'=true:=by
 intro u hu;unfold mh at hu;obtain⟨x,_,rfl⟩:=List.mem_map.1 hu;rfl
theorem ah6 {P:Program} (w:World) (b:Nat) (t ty e:TypeId) (z:Value) (size bytes:Nat) (ht:P.underlying t=some (.slice e)) (hinfo:(P.info? e).map (fun i=>(i.zero,i.size,i.bytes))=some (some z,size,bytes)) (hz:z.cells.size=size) (hs0:0<size)
  (A:Option Addr) (m c:Nat) (cs:List Value) (hl:cs.length=m*size) (hc:CR w A m cs) (h1:∀ u∈cs,u.oneCell'=true) (hm:m*bytes≤140737488355328) (hm2:m≤maxLen) (hb:b≤w.heap.size) :
  ∃ v' w',(Builtin.append_ #[t,t] ty #[.slice none 0 0,.slice A m c]).run P w = .ok v' w'∧w'.ownsRow b e size v' m cs∧w.grownBy w' none:=by
 obtain⟨i0,hi,hzz⟩:=Option.map_eq_some_iff.1 hinfo;simp only[Prod.mk.injEq]at hzz;obtain⟨hz0,hz1,hz2⟩:=hzz;rcases Nat.eq_zero_or_pos m with h0|h0
 ·subst h0
  obtain rfl:cs=[]:=List.eq_nil_of_length_eq_zero (by omega);refine⟨.slice none 0 0,w,?_,World.ownsRow_nil _ _ _ _,World.grownBy.refl w _⟩;cases A <;> simp[Builtin.append_,run_underlying ht,sizeOf,typeInfo,hi,Builtin.lenOf,Builtin.firstCells,loadCells,loadCellsFrom]
 ·obtain⟨ad,rfl,hcc⟩:=hc h0
  obtain⟨v1,w1,hrun,h2,hg,_,hat⟩:=run_append_own_at (P:=P) w b t ty e i0 z size bytes ht hi hz0 hz1 hz2 hz hs0 (.slice none 0 0) 0 [] (World.ownsRow_nil _ _ _ _) ad m c cs hl hcc h1 (by rw[Nat.zero_add];exact hm2) (by rw[Nat.zero_add];exact hm) hb;rw[Nat.zero_add,List.nil_append]at h2
  exact⟨v1,w1,hrun,h2,hg⟩
theorem SC {P:Program} {w w0:World} {ops:Array Oper} {rest:List Oper} {o:Oper} {a:Act} {Q:Exit→Act→World→Prop} (hgd:o.guard=none) (s x:Operand) (t e:TypeId)
  (ho:o.op = .call { callee := .builtin .append,args:=#[s,x],argTypes:=#[t,t] }) (z:Value) (size bytes:Nat) (ht:P.underlying t=some (.slice e)) (hinfo:(P.info? e).map (fun i=>(i.zero,i.size,i.bytes))=some (some z,size,bytes)) (hz:z.cells.size=size) (hs0:0<size)
  (A:Option Addr) (m c:Nat) (cs:List Value) (hs:a.eval s = .slice none 0 0) (hx:a.eval x = .slice A m c) {b:Nat} (hB:Below b w0 w) (hb:b=w0.heap.size) (hl:cs.length=m*size) (hc:CR w0 A m cs) (h1:∀ u∈cs,u.oneCell'=true) (hm:m*bytes≤140737488355328) (hm2:m≤maxLen)
  (h:∀ A' c' w',Hid (w'.ownsRow w.heap.size e size (.slice A' m c') m cs)→Hid (w.grownBy w' none)→wpList P ops Q rest (a.put o.dst (.slice A' m c')) w'):wpList P ops Q (o::rest) a w:=by
 obtain⟨v',w',hrun,h2,hg⟩:=ah6 (P:=P) w w.heap.size t o.type e z size bytes ht hinfo hz hs0 A m c cs hl (hc.below hB hb) h1 hm hm2 (Nat.le_refl _);refine wpList_plain hgd fun K hK=>?_;unfold Oper.wp execOp;simp only[ho,resolve,invoke,builtin,Sem.run_bind,Sem.run_pure,Result.andThen_ok,List.map_toArray,List.map_cons,List.map_nil,hs,hx,hrun];obtain⟨A',c',rfl⟩:∃ A' c',v' = .slice A' m c':=by
  rcases h2.2 with ⟨rfl,rfl⟩|⟨g,cap,cur,rfl,_⟩
  ·exact⟨_,_,rfl⟩
  ·exact⟨_,_,rfl⟩
 exact hK _ _ (h A' c' w' (qh h2) (qh hg))
theorem agC {P:Program} (w:World) (b:Nat) (t ty e:TypeId) (size:Nat) (ht:P.underlying t=some (.slice e)) (hs:(P.info? e).map (·.size)=some size)
  (v:Value) (A:Option Addr) (m c:Nat) (old cs:List Value) (ho:w.ownsRow b e size v m old) (hl:cs.length=m*size) (hc:CR w A m cs) (h1:∀ u∈cs,u.oneCell'=true) :
  ∃ w',(Builtin.copy_ #[t,t] ty #[v,.slice A m c]).run P w = .ok (goInt m) w'∧w'.ownsRow b e size v m cs∧w.grownBy w' v.ownBlock:=by
 obtain⟨i0,hi,hz⟩:=Option.map_eq_some_iff.1 hs;rcases Nat.eq_zero_or_pos m with h0|h0
 ·subst h0
  obtain rfl:cs=[]:=List.eq_nil_of_length_eq_zero (by omega);obtain rfl:old=[]:=List.eq_nil_of_length_eq_zero (by have:=ho.1;omega);refine⟨w,?_,ho,World.grownBy.refl w _⟩;rcases ho.2 with ⟨rfl,-⟩|⟨g,cap,cur,rfl,-⟩
  ·cases A <;> simp[Builtin.copy_,run_underlying ht,sizeOf,typeInfo,hi,Builtin.lenOf,Builtin.firstCells,loadCells,loadCellsFrom,storeCells]
  ·cases A <;> simp[Builtin.copy_,run_underlying ht,sizeOf,typeInfo,hi,Builtin.lenOf,Builtin.firstCells,loadCells,loadCellsFrom,storeCells]
 ·obtain⟨ad,rfl,hcc⟩:=hc h0
  rcases ho.2 with ⟨rfl,h⟩|⟨g,cap,cur,rfl,hbg,hg,hmc,hcm,hsz,htk⟩
  ·omega
  ·have hle:m*size≤cap*size:=Nat.mul_le_mul_right _ hmc
   have ama:=run_loadCells_list (P:=P) w ad cs hcc;have hst:=run_storeCells_at P g 0 e cs 0 cur w hg (by omega) h1;have hld:(loadCells ad (m*size)).run P w = .ok cs.toArray w:=by rw[← hl];exact ama
   refine⟨w.setRow g (cur.toList.take (0+0)++cs++cur.toList.drop (0+0+cs.length)).toArray,?_,⟨hl,.inr ⟨g,cap,_,rfl,hbg,setRow_heap w g cur _ e _ hg,hmc,hcm,?_,?_⟩⟩,⟨rfl,rfl,rfl,by simp[World.setRow],fun k _ hk=>setRow_other w g k _ (fun e=>hk (by simp[Value.ownBlock,e]))⟩⟩
   ·simp[Builtin.copy_,run_underlying ht,Builtin.lenOf,Builtin.firstCells,sizeOf,typeInfo,hi,hz,hld]
    have:(storeCells ⟨g,0,none⟩ cs 0).run P w=(storeCells ⟨g,0,none⟩ cs).run P w:=rfl;rw[← this,hst];simp
   ·simp;omega
   ·simp[← hl]
theorem SD {P:Program} {w w0:World} {ops:Array Oper} {rest:List Oper} {o:Oper} {a:Act} {Q:Exit→Act→World→Prop} (hgd:o.guard=none) (s x:Operand) (t e:TypeId)
  (ho:o.op = .call { callee := .builtin .copy,args:=#[s,x],argTypes:=#[t,t] }) (size:Nat) (ht:P.underlying t=some (.slice e)) (hinfo:(P.info? e).map (·.size)=some size)
  (v:Value) (A:Option Addr) (m c:Nat) {old:List Value} (cs:List Value) (hs:a.eval s=v) (hx:a.eval x = .slice A m c) {b b':Nat} (hB:Below b w0 w) (hb:b=w0.heap.size) (hown:w.ownsRow b' e size v m old) (hl:cs.length=m*size) (hc:CR w0 A m cs) (h1:∀ u∈cs,u.oneCell'=true)
  (h:∀ w',Hid (w'.ownsRow b' e size v m cs)→Hid (w.grownBy w' v.ownBlock)→wpList P ops Q rest (a.put o.dst (goInt m)) w'):wpList P ops Q (o::rest) a w:=by
 obtain⟨w',hrun,h2,hg⟩:=agC (P:=P) w b' t o.type e size ht hinfo v A m c old cs hown hl (hc.below hB hb) h1;refine wpList_plain hgd fun K hK=>?_;unfold Oper.wp execOp;simp only[ho,resolve,invoke,builtin,Sem.run_bind,Sem.run_pure,Result.andThen_ok,List.map_toArray,List.map_cons,List.map_nil,hs,hx,hrun];exact hK _ _ (h w' (qh h2) (qh hg))
theorem aad {w w':World} {b:Nat} {e:TypeId} {size n:Nat} {v:Value} {cs:List Value} (h:w.ownsRow b e size v n cs) (hm:∀ k,b≤k→k<w.heap.size→w'.heap[k]?=w.heap[k]?):w'.ownsRow b e size v n cs:=by
 refine⟨h.1,?_⟩;rcases h.2 with h2|⟨g,cap,cur,rfl,hb,hh,r⟩
 ·exact .inl h2
 ·exact .inr ⟨g,cap,cur,rfl,hb,(hm g hb (Array.getElem?_eq_some_iff.1 hh).1).trans hh,r⟩
theorem SE {w w':World} {b:Nat} {e:TypeId} {size n:Nat} {v:Value} {cs:List Value} (h:w.ownsRow b e size v n cs) (hg:w.grownBy w' none):w'.ownsRow b e size v n cs:=aad h (fun k _ hk=>hg.block k hk (by simp))
theorem xU {w:World} {b:Nat} {e:TypeId} {size n:Nat} {v:Value} {cs:List Value} (h:w.ownsRow b e size v n cs) {p:Addr} (hp:p.block<b) (u:Value):(w.setCell p u).ownsRow b e size v n cs:=aad h (fun k hk _=>Below.heap_setCell w p u k (by omega))
theorem wJ {w w':World} {b:Nat} {e:TypeId} {size n:Nat} {v:Value} {cs:List Value} (h:w.ownsRow b e size v n cs) {row:Option Nat} (hg:w.grownBy w' row) (hne:∀ k,row=some k→∃ cells t f,w.heap[k]?=some (.cells cells t f)∧t≠e):w'.ownsRow b e size v n cs:=by
 refine⟨h.1,?_⟩;rcases h.2 with h2|⟨g,cap,cur,rfl,hb,hh,r⟩
 ·exact .inl h2
 ·refine .inr ⟨g,cap,cur,rfl,hb,(hg.block g (Array.getElem?_eq_some_iff.1 hh).1 (fun e'=>?_)).trans hh,r⟩
  obtain⟨cells,t,f,hk,ht⟩:=hne g e'.symm;rw[hk]at hh
  injection hh with hh
  injection hh with _ hh
  exact ht hh
theorem H9 {w:World} {b:Nat} {e:TypeId} {size n:Nat} {v:Value} {cs:List Value} (h:w.ownsRow b e size v n cs):∀ k,v.ownBlock=some k→∃ cells f,w.heap[k]?=some (.cells cells e f):=by
 intro k hk;rcases h.2 with ⟨rfl,_⟩|⟨g,cap,cur,rfl,hb,hh,r⟩
 ·simp[Value.ownBlock]at hk
 ·have:g=k:=by simpa [Value.ownBlock] using hk
  subst this;exact⟨_,_,hh⟩
theorem aae {w:World} {b:Nat} {e:TypeId} {size n:Nat} {v:Value} {cs:List Value} (h:w.ownsRow b e size v n cs):∃ A c,v = .slice A n c∧n≤c∧n≤9223372036854775807∧CR w A n cs:=by
 rcases Nat.eq_zero_or_pos n with h0|h0
 ·rcases h.2 with ⟨rfl,rfl⟩|⟨g,cap,cur,rfl,_,_,h1,_⟩
  ·exact⟨none,0,rfl,Nat.le_refl _,by omega,fun hp=>absurd hp (by omega)⟩
  ·exact⟨_,cap,rfl,h1,by omega,fun hp=>absurd hp (by omega)⟩
 ·rcases h.2 with ⟨_,h1⟩|⟨g,cap,cur,rfl,hb,hh,h1,h2,h3,h4⟩
  ·omega
  ·refine⟨_,cap,rfl,h1,by simp only[maxLen]at h2;omega,fun _=>⟨_,rfl,fun j u hj=>?_⟩⟩
   exact h.cells (g:=g) rfl _ u hj
structure OM (w:World) (b:Nat) (v0 v1 v2:Value) (ps:PS) (zs:List Int) (n1:Nat) (ss:SS):Prop where
 p:∃ cs,bk (dF.K w) 6 ps cs∧w.ownsRow b 42 6 v0 ps.length cs
 t:w.ownsRow b 61 3 v1 n1 (mh zs)
 s:∃ cs,bk (qQ.K w) 3 ss cs∧w.ownsRow b 55 3 v2 ss.length cs
theorem Yc {α:Type} {d:Kd α} {w:World} {b:Nat} {e:TypeId} {v:Value} {xs:List α} {cs:List Value} (h:bk (d.K w) d.sz xs cs) (ho:w.ownsRow b e d.sz v xs.length cs):∃ A c,v = .slice A xs.length c∧xs.length≤c∧d.C w A xs.length xs:=by
 obtain⟨A,c,rfl,hl,_⟩:=aae ho;obtain⟨A',c',he,hr⟩:=Xm ho h rfl;injection he with h1 h2 h3
 subst h1;exact⟨A,c,rfl,hl,hr⟩
theorem OM.args {w:World} {b:Nat} {v0 v1 v2:Value} {ps:PS} {zs:List Int} {n1:Nat} {ss:SS} (h:OM w b v0 v1 v2 ps zs n1 ss):∃ A0 c0 A1 c1 A2 c2,v0 = .slice A0 ps.length c0∧v1 = .slice A1 n1 c1∧v2 = .slice A2 ss.length c2∧n1≤c1∧mZ w A0 A1 A2 c0 c2 ps zs n1 ss:=by
 obtain⟨cs0,dL,lZ⟩:=h.p;obtain⟨A0,c0,rfl,hl0,V9⟩:=Yc (d:=dF) dL lZ;obtain⟨A1,c1,rfl,fy,-,hC1⟩:=aae h.t;obtain⟨lK,hr2,o9⟩:=h.s;obtain⟨A2,c2,rfl,hl2,hC2⟩:=Yc (d:=qQ) hr2 o9;refine⟨A0,c0,A1,c1,A2,c2,rfl,rfl,rfl,fy,⟨V9,hl0,fun h0=>?_,hC2,hl2⟩⟩;obtain⟨ad,e,hc⟩:=hC1 (by omega);refine⟨ad,e,fun j hj=>hc j _ ?_⟩;have hz:zs.length=n1*3:=by have:=h.t.1;unfold mh at this;simpa using this
 unfold mh;rw[List.getElem?_map,List.getD_eq_getElem?_getD,List.getElem?_eq_getElem (by omega)];rfl
theorem OM.nil (w:World) (b:Nat):OM w b (.slice none 0 0) (.slice none 0 0) (.slice none 0 0) [] [] 0 [] :=
 ⟨⟨[],bk.none _ _,World.ownsRow_nil _ _ _ _⟩,World.ownsRow_nil _ _ _ _,⟨[],bk.none _ _,World.ownsRow_nil _ _ _ _⟩⟩
theorem OM.below {w w':World} {b:Nat} {v0 v1 v2:Value} {ps:PS} {zs:List Int} {n1:Nat} {ss:SS} (h:OM w b v0 v1 v2 ps zs n1 ss) (hb:Below w.heap.size w w'):OM w' b v0 v1 v2 ps zs n1 ss:=by
 obtain⟨⟨cs0,dL,lZ⟩,ht,⟨lK,hr2,o9⟩⟩:=h;exact⟨⟨cs0,dL.j4 (fun _ _ hp=>dF.oQ hb hp),EV lZ hb⟩,EV ht hb,⟨lK,hr2.j4 (fun _ _ hp=>qQ.oQ hb hp),EV o9 hb⟩⟩
end Go.Proofs.YtfcjnhkkfmgmpaaGreat
namespace Go.Proofs.aC.R
open Go.RowKit Go.Proofs.aC.Z Go.Proofs.aD.bf Go.Proofs.aD.ck Go.Proofs.aD.cL
attribute [local go_sem] cY cZ dm dn cW cX dc dh
attribute [local go_sem high] aoi
def pV.l0:Nat→List (mI)→List (mI)→Int→Option (Bool)
 | 0,_,_,_=>none
 | k+1,x0,x1,x5=>if x5<(x0.length:Int) then (if 0≤x5 then (if x5<(x1.length:Int) then (if (!(((eG x0 x5).f0)==((eG x1 x5).f0))||(!(((eG x0 x5).f1)==((eG x1 x5).f1))||(!(((eG x0 x5).f2)==((eG x1 x5).f2)))))=true then (some false) else (pV.l0 k x0 x1 (wrap64 (x5+1)))) else (none)) else (none)) else (some true)
def pV.f (k:Nat) (l0 l1:List (mI)):Option (Bool):=if (l0.length:Int)=(l1.length:Int) then (pV.l0 k l0 l1 0) else (some false)
theorem pV.calls (k:Nat) (A0:Option Addr) (c0:Nat) (l0:List (mI)) (A1:Option Addr) (c1:Nat) (l1:List (mI)) (r:Bool) (w:World) (dL:Kd.C qQ w A0 l0.length l0) (hc0:l0.length≤c0) (hr1:Kd.C qQ w A1 l1.length l1) (hc1:l1.length≤c1) (h:pV.f k l0 l1=some r) :
  Calls Tryz.prog 36 #[.slice A0 l0.length c0,.slice A1 l1.length c1] w fun e w'=>e = .returned (.bool r)∧dZ w w':=by
 have azU:=Tryz.underlying55;have eF:=qa dL;have xq:=qa hc0;clear dL hc0;have og:=qa hr1;have xx:=qa hc1;clear hr1 hc1;unfold pV.f at h;have H:=h;clear h;by_cases c3:(l0.length:Int)=(l1.length:Int)
 ·rw[if_pos c3]at H
  have sR:=beq_iff_eq.mpr c3;have DI:=bne_eq_false_iff_eq.mpr c3;have Kp:(l0.length==l1.length)=true:=by first|simpa using c3|(simp at c3 ⊢;omega)
  clear c3;have H':=qa H;clear H;go_enter Tryz.func36,Tryz.ntmps36;go_wp2
  repeat(go_quiet (fail);try go_wp2)
  go_loopg [5] k (fun kq v5 w'=>∃ (bK:Int),v5 = .int .i64 bK∧aM (pV.l0 kq l0 l1 bK=some r)∧aM (kq≤k)∧dZ w w')
  case atStart=>exact⟨(0),zR,H',⟨Nat.le_refl _⟩,by repeat(first|exact dZ.refl _|apply dZ.step)⟩
  case round =>
   clear H';try clear c1;try clear p2;try clear c3;try clear sR;try clear DI;try clear Kp
   obtain⟨bK,rfl,HA,fY,⟨m1,rfl⟩⟩:=hrel;cases gk with
   | zero=>exact absurd HA.out (by simp[pV.l0])
   | succ k1 =>
    have H:=HA.out;clear HA;simp only[pV.l0]at H;by_cases c4:bK<(l0.length:Int)
    ·rw[if_pos c4]at H
     have fI:=decide_eq_true c4;clear c4;by_cases c5:0≤bK
     ·rw[if_pos c5]at H
      have J0:=decide_eq_true c5;clear c5;by_cases c6:bK<(l1.length:Int)
      ·rw[if_pos c6]at H
       have qF:=decide_eq_true c6;clear c6;by_cases c7:(!(((eG l0 bK).f0)==((eG l1 bK).f0))||(!(((eG l0 bK).f1)==((eG l1 bK).f1))||(!(((eG l0 bK).f2)==((eG l1 bK).f2)))))=true
       ·rw[if_pos c7]at H
        have nN:(!(((eG l0 bK).f0)==((eG l1 bK).f0))||(!(((eG l0 bK).f1)==((eG l1 bK).f1))||(!(((eG l0 bK).f2)==((eG l1 bK).f2)))))=true:=c7;clear c7;obtain rfl:=Option.some.inj H;have DW:0≤(bK:Int):=of_decide_eq_true (by first|(with_reducible assumption)|assumption);have DX:bK<(l0.length:Int):=of_decide_eq_true (by first|(with_reducible assumption)|assumption);obtain⟨aoj,U9,aj_,aj',aka⟩:=mY eF.out bK DW DX;cases U9;replace DW:=eq_true DW;replace DX:=eq_true DX;have DY:0≤(bK:Int):=of_decide_eq_true (by first|(with_reducible assumption)|assumption);have DZ:bK<(l1.length:Int):=of_decide_eq_true (by first|(with_reducible assumption)|assumption);obtain⟨aok,U_,akb,akc,akd⟩:=mY og.out bK DY DZ;cases U_;replace DY:=eq_true DY;replace DZ:=eq_true DZ;go_wp2
        repeat(go_quiet (fail);try go_wp2)
        go_ret
        exact⟨by first|rfl|(simp;done)|(simp[*];done),by repeat(first|exact dZ.refl _|apply dZ.step)⟩
       ·rw[if_neg c7]at H
        have nN:(!(((eG l0 bK).f0)==((eG l1 bK).f0))||(!(((eG l0 bK).f1)==((eG l1 bK).f1))||(!(((eG l0 bK).f2)==((eG l1 bK).f2)))))=false:=by simpa using c7
        clear c7;have H':=qa H;clear H;have DW:0≤(bK:Int):=of_decide_eq_true (by first|(with_reducible assumption)|assumption);have DX:bK<(l0.length:Int):=of_decide_eq_true (by first|(with_reducible assumption)|assumption);obtain⟨aoj,U9,aj_,aj',aka⟩:=mY eF.out bK DW DX;cases U9;replace DW:=eq_true DW;replace DX:=eq_true DX;have DY:0≤(bK:Int):=of_decide_eq_true (by first|(with_reducible assumption)|assumption);have DZ:bK<(l1.length:Int):=of_decide_eq_true (by first|(with_reducible assumption)|assumption);obtain⟨aok,U_,akb,akc,akd⟩:=mY og.out bK DY DZ;cases U_;replace DY:=eq_true DY;replace DZ:=eq_true DZ;go_wp2
        repeat(go_quiet (fail);try go_wp2)
        go_roundg k1
        case measure=>have:=fY.out;omega
        case rel=>exact⟨(wrap64 (bK+1)),zR,H',⟨by have:=fY.out;omega⟩,by repeat(first|exact dZ.refl _|apply dZ.step)⟩
      ·rw[if_neg c6]at H
       exact absurd H (by simp)
     ·rw[if_neg c5]at H
      exact absurd H (by simp)
    ·rw[if_neg c4]at H
     have fI:=decide_eq_false c4;clear c4;obtain rfl:=Option.some.inj H;go_wp2
     repeat(go_quiet (fail);try go_wp2)
     go_ret
     exact⟨by first|rfl|(simp;done)|(simp[*];done),by repeat(first|exact dZ.refl _|apply dZ.step)⟩
 ·rw[if_neg c3]at H
  have sR:=beq_eq_false_iff_ne.mpr c3;have DI:=bne_iff_ne.mpr c3;have Kp:(l0.length==l1.length)=false:=by first|simpa using c3|(simp at c3 ⊢;omega)
  obtain rfl:=Option.some.inj H;go_enter Tryz.func36,Tryz.ntmps36;go_wp2
  repeat(go_quiet (fail);try go_wp2)
  go_ret
  exact⟨by first|rfl|(simp;done)|(simp[*];done),by repeat(first|exact dZ.refl _|apply dZ.step)⟩
end Go.Proofs.aC.R
namespace Go.Proofs.YtfcjnhkkfmgmpaaGreat
open Go.RowKit aR Go.Proofs.aC.R Go.Proofs.aC.Z Go.Proofs.aD.bf
theorem ake (ss:SS) (a b:Int) (j:Nat):nu ss a b j=true↔((bJ ss j).f0=a∧(bJ ss j).f1=b)∨((bJ ss j).f0=b∧(bJ ss j).f1=a):=by
 unfold nu;rw[Bool.and_eq_true,decide_eq_true_iff,decide_eq_true_iff];omega
theorem akf (ss:SS) (a b:Int):∀ n i K,ss.length=i+n→2*n+1≤K→i+n≤100000→(∀ j,j<i→nu ss a b j=false)→jl.l0 K ss a b (i:Int)=some (oI (nQ (nu ss a b) ss.length)):=by
 intro n;induction n with
 | zero =>
  intro i K hl hK hb hf;obtain⟨k,rfl⟩:∃ k,K=k+1:=⟨K-1,by omega⟩
  rw[jl.l0,if_neg (by omega),L_.2 (fun j hj=>hf j (by omega))];rfl
 | succ n ih =>
  intro i K hl hK hb hf;obtain⟨k,rfl⟩:∃ k,K=k+1+1:=⟨K-2,by omega⟩
  have hgo:∀ c,nu ss a b i=c→jl.j1 (k+1) ss a b (i:Int) c=some (oI (nQ (nu ss a b) ss.length)):=by
   intro c hc;rw[jl.j1];cases c with
   | true=>rw[if_pos rfl,ZK hc hf _ (by omega)];rfl
   | false =>
    rw[if_neg (by decide),lS (by omega)];exact ih (i+1) k (by omega) (by omega) (by omega) (fun j hj=>by
     rcases Nat.lt_succ_iff_lt_or_eq.1 hj with h|h
     ·exact hf j h
     ·subst h;exact hc)
  have hs:=ake ss a b i;rw[jl.l0,if_pos (by omega),if_pos (by omega)];show(if (bJ ss i).f0=a then (if (bJ ss i).f1=b then jl.j1 (k+1) ss a b i true else (if (bJ ss i).f0=b then jl.j1 (k+1) ss a b i ((bJ ss i).f1==a) else jl.j1 (k+1) ss a b i false)) else (if (bJ ss i).f0=b then jl.j1 (k+1) ss a b i ((bJ ss i).f1==a) else jl.j1 (k+1) ss a b i false))=_;have hq:∀ c:Bool,(c=true↔((bJ ss i).f0=a∧(bJ ss i).f1=b)∨((bJ ss i).f0=b∧(bJ ss i).f1=a))→jl.j1 (k+1) ss a b (i:Int) c=some (oI (nQ (nu ss a b) ss.length)):=by
   intro c hc;refine hgo c ?_;have:=hs.trans hc.symm;cases c <;> cases h:nu ss a b i <;> simp_all
  by_cases e1:(bJ ss i).f0=a
  ·rw[if_pos e1]
   by_cases e2:(bJ ss i).f1=b
   ·rw[if_pos e2];exact hq _ (by simp[e1,e2])
   ·rw[if_neg e2]
    by_cases e3:(bJ ss i).f0=b
    ·rw[if_pos e3];exact hq _ (by simp[e2,e3])
    ·rw[if_neg e3];exact hq _ (by simp[e2,e3])
  ·rw[if_neg e1]
   by_cases e3:(bJ ss i).f0=b
   ·rw[if_pos e3];refine hq _ ?_;rw[beq_iff_eq];exact⟨fun h => .inr ⟨e3,h⟩,fun h=>h.elim (fun h=>absurd h.1 e1) (fun h=>h.2)⟩
   ·rw[if_neg e3];exact hq _ (by simp[e1,e3])
def xy (ss:SS) (a b:Int):Int:=oI (nQ (nu ss a b) ss.length)
theorem akg (ss:SS) (K:Nat) (hK:2*ss.length+1≤K) (hb:ss.length≤100000):SgO K ss (xy ss):=fun a b=>akf ss a b ss.length 0 K (by omega) hK (by omega) (fun j hj=>absurd hj (Nat.not_lt_zero _))
theorem akh {p:Nat→Bool}:∀ {m j:Nat},nQ p m=some j→∀ i,i<j→p i=false:=by
 intro m;induction m with
 | zero=>intro j h;cases h
 | succ m ih =>
  intro j h i hi;unfold nQ at h;cases hf:nQ p m with
  | some x =>
   rw[hf]at h
   obtain rfl:=Option.some.inj h;exact ih hf i hi
  | none =>
   rw[hf]at h
   cases hp:p m with
   | true =>
    simp only[hp,if_pos]at h;obtain rfl:=Option.some.inj h;exact L_.1 hf i hi
   | false=>simp[hp]at h
theorem ala {ps:PS} {zs:List Int} {n1:Nat} {ss:SS} {bC:Nat→Nat→Nat→Int} (h:th ps zs n1 ss 0 bC (xy ss)):r_ ps.length zs n1 ss bC:=by
 refine⟨h.l0,h.l1,h.l2,h.c,h.d,fun i hi=>?_⟩;have hb:=h.s i hi;unfold FQ at hb;have h1:¬ (fT (b_ zs (bJ ss i).f0 (bJ ss i).f1 (3*n1))<0∧fT (b_ zs (bJ ss i).f1 (bJ ss i).f0 (3*n1))<0):=fun hh=>hb (.inl hh);have h2:xy ss (bJ ss i).f0 (bJ ss i).f1=i:=by
  rcases Int.decEq (xy ss (bJ ss i).f0 (bJ ss i).f1) i with h|h
  ·exact absurd (.inr h) hb
  ·exact h
 constructor
 ·cases e1:b_ zs (bJ ss i).f0 (bJ ss i).f1 (3*n1) with
  | some j=>exact .inl rfl
  | none =>
   cases e2:b_ zs (bJ ss i).f1 (bJ ss i).f0 (3*n1) with
   | some j=>exact .inr rfl
   | none=>rw[e1,e2]at h1;exact absurd ⟨by decide,by decide⟩ h1
 ·intro j hj he
  unfold xy at h2;cases hf:nQ (nu ss (bJ ss i).f0 (bJ ss i).f1) ss.length with
  | none=>rw[hf]at h2;simp only[oI]at h2;omega
  | some q =>
   rw[hf]at h2
   have hq:q=i:=by simp only[oI]at h2;omega
   subst hq;have:=akh hf j hj;unfold nu at this;rw[decide_eq_true he.1,decide_eq_true he.2]at this
   exact absurd this (by decide)
theorem aki (ps:PS):∀ n i K,ps.length=i+n→n+1≤K→i+n≤100000→pU.l0 K ps ps (i:Int)=some true:=by
 intro n;induction n with
 | zero =>
  intro i K hl hK hb;obtain⟨k,rfl⟩:∃ k,K=k+1:=⟨K-1,by omega⟩
  rw[pU.l0,if_neg (by omega)]
 | succ n ih =>
  intro i K hl hK hb;obtain⟨k,rfl⟩:∃ k,K=k+1:=⟨K-1,by omega⟩
  rw[pU.l0,if_pos (by omega),if_pos (by omega),if_pos (by omega),if_neg (by simp),lS (by omega)];exact ih (i+1) k (by omega) (by omega) (by omega)
theorem akj (ps:PS) (K:Nat) (hK:ps.length+1≤K) (hb:ps.length≤100000):pU.f K ps ps=some true:=by
 rw[pU.f,if_pos rfl];exact aki ps ps.length 0 K (by omega) hK (by omega)
theorem akk (ss:SS):∀ n i K,ss.length=i+n→n+1≤K→i+n≤100000→pV.l0 K ss ss (i:Int)=some true:=by
 intro n;induction n with
 | zero =>
  intro i K hl hK hb;obtain⟨k,rfl⟩:∃ k,K=k+1:=⟨K-1,by omega⟩
  rw[pV.l0,if_neg (by omega)]
 | succ n ih =>
  intro i K hl hK hb;obtain⟨k,rfl⟩:∃ k,K=k+1:=⟨K-1,by omega⟩
  rw[pV.l0,if_pos (by omega),if_pos (by omega),if_pos (by omega),if_neg (by simp),lS (by omega)];exact ih (i+1) k (by omega) (by omega) (by omega)
theorem akl (ss:SS) (K:Nat) (hK:ss.length+1≤K) (hb:ss.length≤100000):pV.f K ss ss=some true:=by
 rw[pV.f,if_pos rfl];exact akk ss ss.length 0 K (by omega) hK (by omega)
end Go.Proofs.YtfcjnhkkfmgmpaaGreat
