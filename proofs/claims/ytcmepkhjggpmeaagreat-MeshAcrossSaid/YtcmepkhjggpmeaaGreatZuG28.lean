import Derived.Test.YtcmepkhjggpmeaaGreatZuG27
import Derived.Laws.CopyOwn
set_option linter.all false
set_option maxRecDepth 100000
set_option maxHeartbeats 8000000
namespace Go.Proofs.YtcmepkhjggpmeaaGreat
open Go.RowKit aP Go.Proofs.aF.R Go.Proofs.aF.Z Go.Proofs.aD.aY
def CR (w:World) (A:Option Addr) (m:Nat) (cs:List Value):Prop:=0<m->∃ ad,A=some ad/\∀ j u,cs[j]?=some u->w.cell? (ad.add j)=some u
theorem CR.below {w w':World} {A:Option Addr} {m:Nat} {cs:List Value} {b:Nat} (h:CR w A m cs) (hb:Below b w w') (hz:b=w.heap.size):CR w' A m cs:=by
 intro h0;obtain⟨ad,e,hc⟩:=h h0;refine⟨ad,e,fun j u hj=>?_⟩;exact(hb.cell (by rw[hz];exact ql (hc j u hj))).trans (hc j u hj)
def fQ (zs:List Int):List Value:=zs.map (fun x=>Value.int .i64 x)
theorem IR.cr {w:World} {A:Option Addr} {m n:Nat} {zs:List Int} (h:IR w A m zs) (hl:zs.length=m) (hn:0<n->0<m):CR w A n (fQ zs):=by
 intro h0;obtain⟨ad,e,hc⟩:=h (hn h0);refine⟨ad,e,fun j u hj=>?_⟩;unfold fQ at hj;rw[List.getElem?_map]at hj
 obtain⟨x,hx,rfl⟩:=Option.map_eq_some_iff.1 hj;obtain⟨hlt,hxe⟩:=List.getElem?_eq_some_iff.1 hx;have:=hc j qo;rw[List.getD_eq_getElem?_getD,hx]at this
 exact this
theorem Zb {α:Type} {d:Kd α} {w:World} {A:Option Addr} {n:Nat} {xs:List α} (h:d.C w A n xs):∃ cs,bp (d.K w) d.sz xs cs/\CR w A n cs:=by
 have hl:=h.1;cases A with
 | none =>
  have:n=0:=by
   rcases Nat.eq_zero_or_pos n with h0|h0
   ·exact h0
   ·obtain⟨ad,e,_⟩:=h.2.2 h0
    cases e
  subst this;obtain rfl:xs=[]:=List.eq_nil_of_length_eq_zero hl;exact⟨[],bp.none _ _,fun h0=>absurd h0 (Nat.lt_irrefl 0)⟩
 | some ad =>
  have hrow:∀ j p,xs[j]?=some p->∃ c,c.length=d.sz/\d.K w p c/\∀ i u,c[i]?=some u->w.cell? (ad.add (j*d.sz+i))=some u:=by
   intro j p hj;obtain⟨hlt,-⟩:=List.getElem?_eq_some_iff.1 hj;obtain⟨Ac,e,hc⟩:=h.2.2 qo;obtain rfl:=Option.some.inj e;exact hc j p hj
  have hcell:∀ q,q<n*d.sz->∃ u,w.cell? (ad.add q)=some u:=by
   intro q hq;have h0:0<d.sz:=by
    rcases Nat.eq_zero_or_pos d.sz with h0|h0
    ·rw[h0,Nat.mul_zero]at hq;omega
    ·exact h0
   have iz:q / d.sz<xs.length:=by rw[Nat.div_lt_iff_lt_mul h0,hl];exact hq
   obtain⟨c,bW,-,hc⟩:=hrow (q / d.sz) _ (List.getElem?_eq_getElem iz);have hm:q%d.sz<c.length:=by rw[bW];exact Nat.mod_lt _ h0
   have:=hc (q%d.sz) _ (List.getElem?_eq_getElem hm);rw[Nat.mul_comm,Nat.div_add_mod]at this
   exact⟨_,this⟩
  refine⟨(List.range (n*d.sz)).map (fun q=>(w.cell? (ad.add q)).getD (.bool false)),⟨by simp[hl],fun j p hj=>?_⟩,fun _=>⟨ad,rfl,fun j u hj=>?_⟩⟩
  ·obtain⟨hlt,-⟩:=List.getElem?_eq_some_iff.1 hj
   obtain⟨c,bW,hK,hc⟩:=hrow j p hj;have hle:(j+1)*d.sz<=n*d.sz:=Nat.mul_le_mul_right _ qo;rw[Nat.add_mul,Nat.one_mul]at hle
   have:(((List.range (n*d.sz)).map (fun q=>(w.cell? (ad.add q)).getD (.bool false))).drop (j*d.sz)).take d.sz=c:=by
    apply List.ext_getElem?;intro i;rw[List.getElem?_take];split
    ·rename_i hi
     rw[List.getElem?_drop,List.getElem?_map,List.getElem?_range qo,List.getElem?_eq_getElem qo];simp only[Option.map_some];rw[hc i _ (List.getElem?_eq_getElem qo)];rfl
    ·rw[List.getElem?_eq_none qo]
   rw[this];exact hK
  ·rw[List.getElem?_map]at hj
   obtain⟨q,hq,rfl⟩:=Option.map_eq_some_iff.1 hj;obtain⟨hlt,hqe⟩:=List.getElem?_eq_some_iff.1 hq;simp at hlt hqe;subst hqe;obtain⟨u,hu⟩:=hcell j hlt;rw[hu];rfl
theorem Yi {α:Type} {d:Kd α} {w:World} {xs:List α} {cs:List Value} (h:bp (d.K w) d.sz xs cs) (h0:0<d.sz):∀ u∈cs,u.oneCell'=true:=by
 intro u hu;obtain⟨q,hq,rfl⟩:=List.mem_iff_getElem.1 hu;have iz:q / d.sz<xs.length:=by
  rw[Nat.div_lt_iff_lt_mul h0,<- h.1];exact hq
 have hc:=h.2 (q / d.sz) _ (List.getElem?_eq_getElem iz);refine d.tB hc _ ?_;rw[List.mem_iff_getElem?];refine⟨q%d.sz,?_⟩;rw[List.getElem?_take,if_pos (Nat.mod_lt _ h0),List.getElem?_drop,Nat.mul_comm,Nat.div_add_mod,List.getElem?_eq_getElem hq]
theorem Qo (zs:List Int):∀ u∈fQ zs,u.oneCell'=true:=by
 intro u hu;unfold fQ at hu;obtain⟨x,_,rfl⟩:=List.mem_map.1 hu;rfl
theorem aje {P:Program} (w:World) (b:Nat) (t ty e:TypeId) (z:Value) (size bytes:Nat) (ht:P.underlying t=some (.slice e)) (hinfo:(P.info? e).map (fun i=>(i.zero,i.size,i.bytes))=some (some z,size,bytes)) (hz:z.cells.size=size) (hs0:0<size)
  (A:Option Addr) (m c:Nat) (cs:List Value) (hl:cs.length=m*size) (hc:CR w A m cs) (h1:∀ u∈cs,u.oneCell'=true) (hm:m*bytes<=140737488355328) (hm2:m<=maxLen) (hb:b<=w.heap.size) :
  ∃ v' w',(Builtin.append_ #[t,t] ty #[.slice none 0 0,.slice A m c]).run P w = .ok v' w'/\w'.ownsRow b e size v' m cs/\w.grownBy w' none:=by
 obtain⟨i0,hi,hzz⟩:=Option.map_eq_some_iff.1 hinfo;simp only[Prod.mk.injEq]at hzz;obtain⟨hz0,hz1,hz2⟩:=hzz;rcases Nat.eq_zero_or_pos m with h0|h0
 ·subst h0
  obtain rfl:cs=[]:=List.eq_nil_of_length_eq_zero qo;refine⟨.slice none 0 0,w,?_,World.ownsRow_nil _ _ _ _,World.grownBy.refl w _⟩;cases A <;> simp[Builtin.append_,run_underlying ht,sizeOf,typeInfo,hi,Builtin.lenOf,Builtin.firstCells,loadCells,loadCellsFrom]
 ·obtain⟨ad,rfl,hcc⟩:=hc h0
  obtain⟨v1,w1,hrun,h2,hg,_,hat⟩:=run_append_own_at (P:=P) w b t ty e i0 z size bytes ht hi hz0 hz1 hz2 hz hs0 (.slice none 0 0) 0 [] (World.ownsRow_nil _ _ _ _) ad m c cs hl hcc h1 (by rw[Nat.zero_add];exact hm2) (by rw[Nat.zero_add];exact hm) hb;rw[Nat.zero_add,List.nil_append]at h2
  exact⟨v1,w1,hrun,h2,hg⟩
theorem axd {P:Program} {w w0:World} {ops:Array Oper} {rest:List Oper} {o:Oper} {a:Act} {Q:Exit->Act->World->Prop} (hgd:o.guard=none) (s x:Operand) (t e:TypeId)
  (ho:o.op = .call { callee := .builtin .append,args:=#[s,x],argTypes:=#[t,t] }) (z:Value) (size bytes:Nat) (ht:P.underlying t=some (.slice e)) (hinfo:(P.info? e).map (fun i=>(i.zero,i.size,i.bytes))=some (some z,size,bytes)) (hz:z.cells.size=size) (hs0:0<size)
  (A:Option Addr) (m c:Nat) (cs:List Value) (hs:a.eval s = .slice none 0 0) (hx:a.eval x = .slice A m c) {b:Nat} (hB:Below b w0 w) (hb:b=w0.heap.size) (hl:cs.length=m*size) (hc:CR w0 A m cs) (h1:∀ u∈cs,u.oneCell'=true) (hm:m*bytes<=140737488355328) (hm2:m<=maxLen)
  (h:∀ A' c' w',Hid (w'.ownsRow w.heap.size e size (.slice A' m c') m cs)->Hid (w.grownBy w' none)->wpList P ops Q rest (a.put o.dst (.slice A' m c')) w'):wpList P ops Q (o::rest) a w:=by
 obtain⟨v',w',hrun,h2,hg⟩:=aje (P:=P) w w.heap.size t o.type e z size bytes ht hinfo hz hs0 A m c cs hl (hc.below hB hb) h1 hm hm2 (Nat.le_refl _);refine wpList_plain hgd fun K hK=>?_;unfold Oper.wp execOp;simp only[ho,resolve,invoke,builtin,Sem.run_bind,Sem.run_pure,Result.andThen_ok,List.map_toArray,List.map_cons,List.map_nil,hs,hx,hrun];obtain⟨A',c',rfl⟩:∃ A' c',v' = .slice A' m c':=by
  rcases h2.2 with ⟨rfl,rfl⟩|⟨g,cap,cur,rfl,_⟩
  ·exact⟨_,_,rfl⟩
  ·exact⟨_,_,rfl⟩
 exact hK _ _ (h A' c' w' (qh h2) (qh hg))
theorem ahK {P:Program} (w:World) (b:Nat) (t ty e:TypeId) (size:Nat) (ht:P.underlying t=some (.slice e)) (hs:(P.info? e).map (·.size)=some size)
  (v:Value) (A:Option Addr) (m c:Nat) (old cs:List Value) (ho:w.ownsRow b e size v m old) (hl:cs.length=m*size) (hc:CR w A m cs) (h1:∀ u∈cs,u.oneCell'=true) :
  ∃ w',(Builtin.copy_ #[t,t] ty #[v,.slice A m c]).run P w = .ok (goInt m) w'/\w'.ownsRow b e size v m cs/\w.grownBy w' v.ownBlock:=by
 obtain⟨i0,hi,hz⟩:=Option.map_eq_some_iff.1 hs;rcases Nat.eq_zero_or_pos m with h0|h0
 ·subst h0
  obtain rfl:cs=[]:=List.eq_nil_of_length_eq_zero qo;obtain rfl:old=[]:=List.eq_nil_of_length_eq_zero (by have:=ho.1;omega);refine⟨w,?_,ho,World.grownBy.refl w _⟩;rcases ho.2 with ⟨rfl,-⟩|⟨g,cap,cur,rfl,-⟩
  ·cases A <;> simp[Builtin.copy_,run_underlying ht,sizeOf,typeInfo,hi,Builtin.lenOf,Builtin.firstCells,loadCells,loadCellsFrom,storeCells]
  ·cases A <;> simp[Builtin.copy_,run_underlying ht,sizeOf,typeInfo,hi,Builtin.lenOf,Builtin.firstCells,loadCells,loadCellsFrom,storeCells]
 ·obtain⟨ad,rfl,hcc⟩:=hc h0
  rcases ho.2 with ⟨rfl,h⟩|⟨g,cap,cur,rfl,hbg,hg,hmc,hcm,hsz,htk⟩
  ·omega
  ·have hle:m*size<=cap*size:=Nat.mul_le_mul_right _ hmc
   have anv:=run_loadCells_list (P:=P) w ad cs hcc;have hst:=run_storeCells_at P g 0 e cs 0 cur w hg qo h1;have hld:(loadCells ad (m*size)).run P w = .ok cs.toArray w:=by rw[<- hl];exact anv
   refine⟨w.setRow g (cur.toList.take (0+0)++cs++cur.toList.drop (0+0+cs.length)).toArray,?_,⟨hl,.inr ⟨g,cap,_,rfl,hbg,setRow_heap w g cur _ e _ hg,hmc,hcm,?_,?_⟩⟩,⟨rfl,rfl,rfl,by simp[World.setRow],fun k _ hk=>setRow_other w g k _ (fun e=>hk (by simp[Value.ownBlock,e]))⟩⟩
   ·simp[Builtin.copy_,run_underlying ht,Builtin.lenOf,Builtin.firstCells,sizeOf,typeInfo,hi,hz,hld]
    have:(storeCells ⟨g,0,none⟩ cs 0).run P w=(storeCells ⟨g,0,none⟩ cs).run P w:=rfl;rw[<- this,hst];simp
   ·simp;omega
   ·simp[<- hl]
theorem S7 {P:Program} {w w0:World} {ops:Array Oper} {rest:List Oper} {o:Oper} {a:Act} {Q:Exit->Act->World->Prop} (hgd:o.guard=none) (s x:Operand) (t e:TypeId)
  (ho:o.op = .call { callee := .builtin .copy,args:=#[s,x],argTypes:=#[t,t] }) (size:Nat) (ht:P.underlying t=some (.slice e)) (hinfo:(P.info? e).map (·.size)=some size)
  (v:Value) (A:Option Addr) (m c:Nat) {old:List Value} (cs:List Value) (hs:a.eval s=v) (hx:a.eval x = .slice A m c) {b b':Nat} (hB:Below b w0 w) (hb:b=w0.heap.size) (hown:w.ownsRow b' e size v m old) (hl:cs.length=m*size) (hc:CR w0 A m cs) (h1:∀ u∈cs,u.oneCell'=true)
  (h:∀ w',Hid (w'.ownsRow b' e size v m cs)->Hid (w.grownBy w' v.ownBlock)->wpList P ops Q rest (a.put o.dst (goInt m)) w'):wpList P ops Q (o::rest) a w:=by
 obtain⟨w',hrun,h2,hg⟩:=ahK (P:=P) w b' t o.type e size ht hinfo v A m c old cs hown hl (hc.below hB hb) h1;refine wpList_plain hgd fun K hK=>?_;unfold Oper.wp execOp;simp only[ho,resolve,invoke,builtin,Sem.run_bind,Sem.run_pure,Result.andThen_ok,List.map_toArray,List.map_cons,List.map_nil,hs,hx,hrun];exact hK _ _ (h w' (qh h2) (qh hg))
theorem Nx {w w':World} {b:Nat} {e:TypeId} {size n:Nat} {v:Value} {cs:List Value} (h:w.ownsRow b e size v n cs) (hm:∀ k,b<=k->k<w.heap.size->w'.heap[k]?=w.heap[k]?):w'.ownsRow b e size v n cs:=by
 refine⟨h.1,?_⟩;rcases h.2 with h2|⟨g,cap,cur,rfl,hb,hh,r⟩
 ·exact .inl h2
 ·exact .inr ⟨g,cap,cur,rfl,hb,(hm g hb (Array.getElem?_eq_some_iff.1 hh).1).trans hh,r⟩
theorem aae {w w':World} {b:Nat} {e:TypeId} {size n:Nat} {v:Value} {cs:List Value} (h:w.ownsRow b e size v n cs) (hg:w.grownBy w' none):w'.ownsRow b e size v n cs:=Nx h (fun k _ hk=>hg.block k hk (by simp))
theorem S8 {w:World} {b:Nat} {e:TypeId} {size n:Nat} {v:Value} {cs:List Value} (h:w.ownsRow b e size v n cs) {p:Addr} (hp:p.block<b) (u:Value):(w.setCell p u).ownsRow b e size v n cs:=Nx h (fun k hk _=>Below.heap_setCell w p u k qo)
theorem Dk {w w':World} {b:Nat} {e:TypeId} {size n:Nat} {v:Value} {cs:List Value} (h:w.ownsRow b e size v n cs) {row:Option Nat} (hg:w.grownBy w' row) (hne:∀ k,row=some k->∃ cells t f,w.heap[k]?=some (.cells cells t f)/\t≠e):w'.ownsRow b e size v n cs:=by
 refine⟨h.1,?_⟩;rcases h.2 with h2|⟨g,cap,cur,rfl,hb,hh,r⟩
 ·exact .inl h2
 ·refine .inr ⟨g,cap,cur,rfl,hb,(hg.block g (Array.getElem?_eq_some_iff.1 hh).1 (fun e'=>?_)).trans hh,r⟩
  obtain⟨cells,t,f,hk,ht⟩:=hne g e'.symm;rw[hk]at hh
  injection hh with hh
  injection hh with _ hh
  exact ht hh
theorem QC {w:World} {b:Nat} {e:TypeId} {size n:Nat} {v:Value} {cs:List Value} (h:w.ownsRow b e size v n cs):∀ k,v.ownBlock=some k->∃ cells f,w.heap[k]?=some (.cells cells e f):=by
 intro k hk;rcases h.2 with ⟨rfl,_⟩|⟨g,cap,cur,rfl,hb,hh,r⟩
 ·simp[Value.ownBlock]at hk
 ·have:g=k:=by simpa [Value.ownBlock] using hk
  subst this;exact⟨_,_,hh⟩
theorem S9 {w:World} {b:Nat} {e:TypeId} {size n:Nat} {v:Value} {cs:List Value} (h:w.ownsRow b e size v n cs):∃ A c,v = .slice A n c/\n<=c/\n<=9223372036854775807/\CR w A n cs:=by
 rcases Nat.eq_zero_or_pos n with h0|h0
 ·rcases h.2 with ⟨rfl,rfl⟩|⟨g,cap,cur,rfl,_,_,h1,_⟩
  ·exact⟨none,0,rfl,Nat.le_refl _,by omega,fun hp=>absurd hp qo⟩
  ·exact⟨_,cap,rfl,h1,by omega,fun hp=>absurd hp qo⟩
 ·rcases h.2 with ⟨_,h1⟩|⟨g,cap,cur,rfl,hb,hh,h1,h2,h3,h4⟩
  ·omega
  ·refine⟨_,cap,rfl,h1,by simp only[maxLen]at h2;omega,fun _=>⟨_,rfl,fun j u hj=>?_⟩⟩
   exact h.cells (g:=g) rfl _ u hj
structure OM (w:World) (b:Nat) (v0 v1 v2:Value) (ps:PS) (zs:List Int) (n1:Nat) (ss:SS):Prop where
 p:∃ cs,bp (eA.K w) 6 ps cs/\w.ownsRow b 54 6 v0 ps.length cs
 t:w.ownsRow b 69 3 v1 n1 (fQ zs)
 s:∃ cs,bp (tZ.K w) 3 ss cs/\w.ownsRow b 65 3 v2 ss.length cs
theorem Yj {α:Type} {d:Kd α} {w:World} {b:Nat} {e:TypeId} {v:Value} {xs:List α} {cs:List Value} (h:bp (d.K w) d.sz xs cs) (ho:w.ownsRow b e d.sz v xs.length cs):∃ A c,v = .slice A xs.length c/\xs.length<=c/\d.C w A xs.length xs:=by
 obtain⟨A,c,rfl,hl,_⟩:=S9 ho;obtain⟨A',c',he,hr⟩:=Xk ho h rfl;injection he with h1 h2 h3
 subst h1;exact⟨A,c,rfl,hl,hr⟩
theorem OM.args {w:World} {b:Nat} {v0 v1 v2:Value} {ps:PS} {zs:List Int} {n1:Nat} {ss:SS} (h:OM w b v0 v1 v2 ps zs n1 ss):∃ A0 c0 A1 c1 A2 c2,v0 = .slice A0 ps.length c0/\v1 = .slice A1 n1 c1/\v2 = .slice A2 ss.length c2/\n1<=c1/\ow w A0 A1 A2 c0 c2 ps zs n1 ss:=by
 obtain⟨cs0,fZ,AB⟩:=h.p;obtain⟨A0,c0,rfl,hl0,Wq⟩:=Yj (d:=eA) fZ AB;obtain⟨A1,c1,rfl,f_,-,hC1⟩:=S9 h.t;obtain⟨s8,hr2,AD⟩:=h.s;obtain⟨A2,c2,rfl,hl2,hC2⟩:=Yj (d:=tZ) hr2 AD;refine⟨A0,c0,A1,c1,A2,c2,rfl,rfl,rfl,f_,⟨Wq,hl0,fun h0=>?_,hC2,hl2⟩⟩;obtain⟨ad,e,hc⟩:=hC1 qo;refine⟨ad,e,fun j hj=>hc j _ ?_⟩;have hz:zs.length=n1*3:=by have:=h.t.1;unfold fQ at this;simpa using this
 unfold fQ;rw[List.getElem?_map,List.getD_eq_getElem?_getD,List.getElem?_eq_getElem qo];rfl
theorem OM.nil (w:World) (b:Nat):OM w b (.slice none 0 0) (.slice none 0 0) (.slice none 0 0) [] [] 0 [] :=
 ⟨⟨[],bp.none _ _,World.ownsRow_nil _ _ _ _⟩,World.ownsRow_nil _ _ _ _,⟨[],bp.none _ _,World.ownsRow_nil _ _ _ _⟩⟩
theorem OM.below {w w':World} {b:Nat} {v0 v1 v2:Value} {ps:PS} {zs:List Int} {n1:Nat} {ss:SS} (h:OM w b v0 v1 v2 ps zs n1 ss) (hb:Below w.heap.size w w'):OM w' b v0 v1 v2 ps zs n1 ss:=by
 obtain⟨⟨cs0,fZ,AB⟩,ht,⟨s8,hr2,AD⟩⟩:=h;exact⟨⟨cs0,fZ.nQ (fun _ _ hp=>eA.pM hb hp),td AB hb⟩,td ht hb,⟨s8,hr2.nQ (fun _ _ hp=>tZ.pM hb hp),td AD hb⟩⟩
theorem OM.of {w0 w3:World} {b:Nat} {v0 v1 v2:Value} {ps:PS} {zs:List Int} {n1:Nat} {ss:SS} {cs0 s8:List Value} (r0:bp (eA.K w0) 6 ps cs0) (r2:bp (tZ.K w0) 3 ss s8) (hb:Below w0.heap.size w0 w3)
  (h0:w3.ownsRow b 54 6 v0 ps.length cs0) (h1:w3.ownsRow b 69 3 v1 n1 (fQ zs)) (h2:w3.ownsRow b 65 3 v2 ss.length s8):OM w3 b v0 v1 v2 ps zs n1 ss :=
 ⟨⟨cs0,r0.nQ (fun _ _ hp=>eA.pM hb hp),h0⟩,h1,⟨s8,r2.nQ (fun _ _ hp=>tZ.pM hb hp),h2⟩⟩
structure CI (g r o:Nat) (w:World) (m x y:Array Value) (W:World):Prop where
 below:Below g w W
 bm:aO (W.heap[g]?=some (.cells m 26 (0,0)))
 br:aO (W.heap[r]?=some (.cells x 26 (0,0)))
 bo:aO (W.heap[o]?=some (.cells y 26 (0,0)))
theorem CI.ret {g r o:Nat} {w:World} {m y:Array Value} {x0 x1 x2:Value} {W:World} (h:CI g r o w m #[x0,x1,x2] y W) (h1:g<r) (a b c:Value) :
  (((W.setCell ⟨r,0,none⟩ a).setCell ⟨r,1,none⟩ b).setCell ⟨r,2,none⟩ c).heap[r]?=some (.cells #[a,b,c] 26 (0,0))/\Below g w (((W.setCell ⟨r,0,none⟩ a).setCell ⟨r,1,none⟩ b).setCell ⟨r,2,none⟩ c) :=
 ⟨nG (nG (nG h.br.out 0 a) 1 b) 2 c,((h.below.setCell (p:=⟨r,0,none⟩) (Nat.le_of_lt h1) a).setCell (p:=⟨r,1,none⟩) (Nat.le_of_lt h1) b).setCell (p:=⟨r,2,none⟩) (Nat.le_of_lt h1) c⟩
theorem Gb {w:World} {b:Nat} {e:TypeId} {size n:Nat} {v:Value} {cs:List Value} (h:w.ownsRow b e size v n cs) {r:Nat} (hp:r<b) (x y z:Value):(((w.setCell ⟨r,0,none⟩ x).setCell ⟨r,1,none⟩ y).setCell ⟨r,2,none⟩ z).ownsRow b e size v n cs :=
 S8 (p:=⟨r,2,none⟩) (S8 (p:=⟨r,1,none⟩) (S8 (p:=⟨r,0,none⟩) h hp x) hp y) hp z
abbrev rI:Array Value:=#[.slice none 0 0,.slice none 0 0,.slice none 0 0]
theorem CI.Wt {g r o:Nat} {w:World} {m x y:Array Value} {W W':World} (h:CI g r o w m x y W) {k:Nat} {c:Array Value} {t:TypeId} {f:Nat × Nat} (hg:W.grownBy W' (some k)) (hk:W.heap[k]?=some (.cells c t f)) (ht:t≠26) (nW:g<=k):CI g r o w m x y W':=by
 have ne:∀ {q:Nat} {z:Array Value},W.heap[q]?=some (.cells z 26 (0,0))->some q≠some k:=by
  intro q z hq e;injection e with e
  subst e;rw[hk]at hq
  injection hq with hq
  injection hq with _ hq
  exact ht hq
 exact⟨h.below.grown hg (Nat.le_of_lt (oh h.bm.out)) (fun q hq=>by injection hq with hq;omega),⟨(hg.block _ (oh h.bm.out) (ne h.bm.out)).trans h.bm.out⟩,⟨(hg.block _ (oh h.br.out) (ne h.br.out)).trans h.br.out⟩,⟨(hg.block _ (oh h.bo.out) (ne h.bo.out)).trans h.bo.out⟩⟩
structure OI (g o:Nat) (w:World) (m:Array Value) (n0 n1 n2:Nat) (l0 l1 l2:List Value) (B0 B1 B2:Nat) (W:World):Prop where
 ci:CI g (g+1) o w m rI #[.slice (some ⟨B0,0,none⟩) n0 n0,.slice (some ⟨B1,0,none⟩) n1 n1,.slice (some ⟨B2,0,none⟩) n2 n2] W
 ho:g+1<o
 o0:W.ownsRow (g+2) 54 6 (.slice (some ⟨B0,0,none⟩) n0 n0) n0 l0
 o1:W.ownsRow (g+2) 69 3 (.slice (some ⟨B1,0,none⟩) n1 n1) n1 l1
 o2:W.ownsRow (g+2) 65 3 (.slice (some ⟨B2,0,none⟩) n2 n2) n2 l2
theorem Jb {W:World} {b B n sz:Nat} {e:TypeId} {z:Array Value} (h:W.heap[B]?=some (.cells z e (0,0))) (hs:z.size=n*sz) (hb:b<=B) (hm:n<=2000):W.ownsRow b e sz (.slice (some ⟨B,0,none⟩) n n) n z.toList :=
 ⟨by simp[hs],.inr ⟨B,n,z,rfl,hb,h,Nat.le_refl _,by simp only[maxLen];omega,hs,List.take_of_length_le (by simp[hs])⟩⟩
theorem OI.cp0 {g o:Nat} {w:World} {m:Array Value} {n0 n1 n2:Nat} {l0 l1 l2 l:List Value} {B0 B1 B2:Nat} {W W':World} (h:OI g o w m n0 n1 n2 l0 l1 l2 B0 B1 B2 W) (O:W'.ownsRow (g+2) 54 6 (.slice (some ⟨B0,0,none⟩) n0 n0) n0 l) (G:W.grownBy W' (some B0)):OI g o w m n0 n1 n2 l l1 l2 B0 B1 B2 W':=by
 obtain⟨c,f,hc⟩:=QC h.o0 _ rfl;have:g+2<=B0:=Ba h.o0 _ rfl;exact⟨h.ci.Wt G hc qd qo,h.ho,O,Dk h.o1 G (fun k hk=>by cases hk;exact⟨_,_,_,hc,by decide⟩),Dk h.o2 G (fun k hk=>by cases hk;exact⟨_,_,_,hc,by decide⟩)⟩
theorem OI.cp1 {g o:Nat} {w:World} {m:Array Value} {n0 n1 n2:Nat} {l0 l1 l2 l:List Value} {B0 B1 B2:Nat} {W W':World} (h:OI g o w m n0 n1 n2 l0 l1 l2 B0 B1 B2 W) (O:W'.ownsRow (g+2) 69 3 (.slice (some ⟨B1,0,none⟩) n1 n1) n1 l) (G:W.grownBy W' (some B1)):OI g o w m n0 n1 n2 l0 l l2 B0 B1 B2 W':=by
 obtain⟨c,f,hc⟩:=QC h.o1 _ rfl;have:g+2<=B1:=Ba h.o1 _ rfl;exact⟨h.ci.Wt G hc qd qo,h.ho,Dk h.o0 G (fun k hk=>by cases hk;exact⟨_,_,_,hc,by decide⟩),O,Dk h.o2 G (fun k hk=>by cases hk;exact⟨_,_,_,hc,by decide⟩)⟩
theorem OI.cp2 {g o:Nat} {w:World} {m:Array Value} {n0 n1 n2:Nat} {l0 l1 l2 l:List Value} {B0 B1 B2:Nat} {W W':World} (h:OI g o w m n0 n1 n2 l0 l1 l2 B0 B1 B2 W) (O:W'.ownsRow (g+2) 65 3 (.slice (some ⟨B2,0,none⟩) n2 n2) n2 l) (G:W.grownBy W' (some B2)):OI g o w m n0 n1 n2 l0 l1 l B0 B1 B2 W':=by
 obtain⟨c,f,hc⟩:=QC h.o2 _ rfl;have:g+2<=B2:=Ba h.o2 _ rfl;exact⟨h.ci.Wt G hc qd qo,h.ho,Dk h.o0 G (fun k hk=>by cases hk;exact⟨_,_,_,hc,by decide⟩),Dk h.o1 G (fun k hk=>by cases hk;exact⟨_,_,_,hc,by decide⟩),O⟩
theorem Ny {w:World} {o:Obj} {k:Nat} (h:w.heap.size=k):(w.alloc o).heap[k]?=some o:=h ▸ jE w o
theorem Su (P:Program) (e:TypeId) (z:Value) (size bytes:Nat) (h:(P.info? e).map (fun i=>(i.zero,i.size,i.bytes))=some (some z,size,bytes)):∃ i,P.info? e=some i/\i.zero=some z/\i.size=size/\i.bytes=bytes:=by
 obtain⟨i,hi,hz⟩:=Option.map_eq_some_iff.1 h;simp only[Prod.mk.injEq]at hz;exact⟨i,hi,hz⟩
theorem anw (A0 A1 A2:Option Addr) (c0 n1 c1 c2:Nat) (ps:PS) (zs:List Int) (ss:SS) (w:World) (hA:ow w A0 A1 A2 c0 c2 ps zs n1 ss) (hz:zs.length=3*n1) (hl:ps.length<=1000/\n1<=1000/\ss.length<=2000) :
  Calls Tryz.prog 47 #[.agg #[.slice A0 ps.length c0,.slice A1 n1 c1,.slice A2 ss.length c2]] w fun e w'=>∃ v0 v1 v2,e = .returned (.agg #[v0,v1,v2])/\OM w' w.heap.size v0 v1 v2 ps zs n1 ss/\Below w.heap.size w w':=by
 obtain⟨n0,hn0⟩:∃ n,ps.length=n:=⟨_,rfl⟩
 obtain⟨n2,hn2⟩:∃ n,ss.length=n:=⟨_,rfl⟩
 obtain⟨cs0,fZ,hc0⟩:=Zb hA.p;obtain⟨s8,hr2,hc2⟩:=Zb hA.s;have hc1:=IR.cr (n:=n1) hA.t hz qo;have L0:=qh fZ.1;have L2:=qh hr2.1;rw[hn0]at hl hc0 L0
 rw[hn2]at hl hc2 L2
 have R0:=qh fZ;have R2:=qh hr2;have C0:=qh hc0;have C1:=qh hc1;have C2:=qh hc2;have HL:=qh hl;have H0:=qh hn0;have H2:=qh hn2;have HZ:=qh hz;rw[hn0,hn2];clear fZ hr2 hc0 hc1 hc2 hA hn0 hn2 hz hl;have m0:∀ W:World,(Instr.makeSlice 22 (.int .i64 (n0:Int)) (.int .i64 (n0:Int))).run Tryz.prog W = .ok (.slice (some ⟨W.heap.size,0,none⟩) n0 n0) (W.alloc (.cells (madeCells #[.bool false,.string ⟨#[]⟩,.string ⟨#[]⟩,.bool false,.string ⟨#[]⟩,.string ⟨#[]⟩] (n0*6)) 54)):=fun W=>by
  obtain⟨i,hi,hz,hs,hb⟩:=Su Tryz.prog 54 (.agg #[.bool false,.string ⟨#[]⟩,.string ⟨#[]⟩,.bool false,.string ⟨#[]⟩,.string ⟨#[]⟩]) 6 80 qk;have:=run_make (P:=Tryz.prog) W 22 54 i _ Tryz.underlying22 hi hz .i64 .i64 n0 n0 qo qo (by rw[hb];have:=HL.out;omega) (by have:=HL.out;omega);rw[hs]at this
  exact this
 have m1:∀ W:World,(Instr.makeSlice 23 (.int .i64 (n1:Int)) (.int .i64 (n1:Int))).run Tryz.prog W = .ok (.slice (some ⟨W.heap.size,0,none⟩) n1 n1) (W.alloc (.cells (madeCells #[.int .i64 0,.int .i64 0,.int .i64 0] (n1*3)) 69)):=fun W=>by
  obtain⟨i,hi,hz,hs,hb⟩:=Su Tryz.prog 69 (.agg #[.int .i64 0,.int .i64 0,.int .i64 0]) 3 24 qk;have:=run_make (P:=Tryz.prog) W 23 69 i _ Tryz.underlying23 hi hz .i64 .i64 n1 n1 qo qo (by rw[hb];have:=HL.out;omega) (by have:=HL.out;omega);rw[hs]at this
  exact this
 have m2:∀ W:World,(Instr.makeSlice 24 (.int .i64 (n2:Int)) (.int .i64 (n2:Int))).run Tryz.prog W = .ok (.slice (some ⟨W.heap.size,0,none⟩) n2 n2) (W.alloc (.cells (madeCells #[.int .i64 0,.int .i64 0,.bool false] (n2*3)) 65)):=fun W=>by
  obtain⟨i,hi,hz,hs,hb⟩:=Su Tryz.prog 65 (.agg #[.int .i64 0,.int .i64 0,.bool false]) 3 24 qk;have:=run_make (P:=Tryz.prog) W 24 65 i _ Tryz.underlying24 hi hz .i64 .i64 n2 n2 qo qo (by rw[hb];have:=HL.out;omega) (by have:=HL.out;omega);rw[hs]at this
  exact this
 obtain⟨z0,e0⟩:∃ z,madeCells #[.bool false,.string ⟨#[]⟩,.string ⟨#[]⟩,.bool false,.string ⟨#[]⟩,.string ⟨#[]⟩] (n0*6)=z:=⟨_,rfl⟩
 obtain⟨z1,e1⟩:∃ z,madeCells #[.int .i64 0,.int .i64 0,.int .i64 0] (n1*3)=z:=⟨_,rfl⟩
 obtain⟨z2,e2⟩:∃ z,madeCells #[.int .i64 0,.int .i64 0,.bool false] (n2*3)=z:=⟨_,rfl⟩
 rw[e0]at m0
 rw[e1]at m1
 rw[e2]at m2
 have S0:=qh (show z0.size=n0*6 by rw[<- e0,size_madeCells]);have S1:=qh (show z1.size=n1*3 by rw[<- e1,size_madeCells]);have S2:=qh (show z2.size=n2*3 by rw[<- e2,size_madeCells]);clear e0 e1 e2;obtain⟨g,hg⟩:∃ g,w.heap.size=g:=⟨_,rfl⟩
 have HG:=qh hg;go_enter Tryz.func47,Tryz.ntmps47;go_upto_region 1 with fail
 go_cut [3] (fun a wx=>∃ (o B0 B1 B2:Nat),a = .pointer (some ⟨o,0,none⟩)/\Hid (OI g o w #[.slice A0 n0 c0,.slice A1 n1 c1,.slice A2 n2 c2] n0 n1 n2 z0.toList z1.toList z2.toList B0 B1 B2 wx))
 case first =>
  go_region
  all_goals try go_wp2
  all_goals go_meet
  all_goals refine⟨_,_,_,_,rfl,qh ⟨⟨?_,⟨?_⟩,⟨?_⟩,⟨by (repeat(first|exact Ny (by simp[hg])|with_reducible refine ej ?_|with_reducible refine dJ ?_ _))⟩⟩,?_,Jb ?_ S0.out ?_ (by have:=HL.out;omega),Jb ?_ S1.out ?_ (by have:=HL.out;omega),Jb ?_ S2.out ?_ (by have:=HL.out;omega)⟩⟩
  all_goals first
   | omega
   | ((repeat(first|exact Ny (by simp[hg])|with_reducible refine ej ?_|with_reducible refine dJ ?_ _));done)
   | ((repeat(first|with_reducible refine Below.drew ?_|refine Below.alloc ?_ (by simp[hg];try omega) _));rw[<- hg];exact Below.refl _ _)
 case rest =>
  obtain⟨o,B0,B1,B2,rfl,HO⟩:=hcut;obtain⟨a0,a1,a2,a3,a4,a5⟩:=z3 HO.out.ci.bm;obtain⟨b0,b1,b2,b3,b4,b5⟩:=z3 HO.out.ci.bo;clear m0 m1 m2 S0 S1 S2
  go_wp2_with (first
   | (refine S7 rfl (.tmp 18) (.tmp 20) 22 54 rfl 6 Tryz.underlying22 qk (.slice (some ⟨B0,0,none⟩) n0 n0) A0 n0 c0 cs0 rfl rfl HO.out.ci.below HG.out.symm HO.out.o0 L0.out C0.out (Yi R0.out qd) ?_;intro w1 O0 G0;have u_:=qh (HO.out.cp0 O0.out G0.out);clear a0 a1 a2 a3 a4 a5 b0 b1 b2 b3 b4 b5;obtain⟨a0,a1,a2,a3,a4,a5⟩:=z3 u_.out.ci.bm;obtain⟨b0,b1,b2,b3,b4,b5⟩:=z3 u_.out.ci.bo)
   | (refine S7 rfl (.tmp 23) (.tmp 25) 23 69 rfl 3 Tryz.underlying23 qk (.slice (some ⟨B1,0,none⟩) n1 n1) A1 n1 c1 (fQ zs) rfl rfl u_.out.ci.below HG.out.symm u_.out.o1 (by simp[fQ,HZ.out];omega) C1.out (Qo _) ?_;intro w2 O1 G1;have Cr:=qh (u_.out.cp1 O1.out G1.out);clear a0 a1 a2 a3 a4 a5 b0 b1 b2 b3 b4 b5;obtain⟨a0,a1,a2,a3,a4,a5⟩:=z3 Cr.out.ci.bm;obtain⟨b0,b1,b2,b3,b4,b5⟩:=z3 Cr.out.ci.bo)
   | (refine S7 rfl (.tmp 28) (.tmp 30) 24 65 rfl 3 Tryz.underlying24 qk (.slice (some ⟨B2,0,none⟩) n2 n2) A2 n2 c2 s8 rfl rfl Cr.out.ci.below HG.out.symm Cr.out.o2 L2.out C2.out (Yi R2.out qd) ?_;intro w3 O2 G2;have AE:=qh (Cr.out.cp2 O2.out G2.out);clear a0 a1 a2 a3 a4 a5 b0 b1 b2 b3 b4 b5;obtain⟨a0,a1,a2,a3,a4,a5⟩:=z3 AE.out.ci.br;obtain⟨b0,b1,b2,b3,b4,b5⟩:=z3 AE.out.ci.bo)
   | fail)
  obtain⟨hres,zl⟩:=AE.out.ci.ret qo (.slice (some ⟨B0,0,none⟩) n0 n0) (.slice (some ⟨B1,0,none⟩) n1 n1) (.slice (some ⟨B2,0,none⟩) n2 n2);have P0:=Gb AE.out.o0 (r:=g+1) qo (.slice (some ⟨B0,0,none⟩) n0 n0) (.slice (some ⟨B1,0,none⟩) n1 n1) (.slice (some ⟨B2,0,none⟩) n2 n2);have P1:=Gb AE.out.o1 (r:=g+1) qo (.slice (some ⟨B0,0,none⟩) n0 n0) (.slice (some ⟨B1,0,none⟩) n1 n1) (.slice (some ⟨B2,0,none⟩) n2 n2);have P2:=Gb AE.out.o2 (r:=g+1) qo (.slice (some ⟨B0,0,none⟩) n0 n0) (.slice (some ⟨B1,0,none⟩) n1 n1) (.slice (some ⟨B2,0,none⟩) n2 n2);refine bodyPost_ret (results_cell_row rfl _ _ (g+1) 26 #[.slice (some ⟨B0,0,none⟩) n0 n0,.slice (some ⟨B1,0,none⟩) n1 n1,.slice (some ⟨B2,0,none⟩) n2 n2] (0,0) _ rfl hres Tryz.underlying26 rfl qk) rfl ?_;rw[hg];exact⟨_,_,_,rfl,OM.of R0.out R2.out (hg ▸ zl) (by rw[H0.out];exact xe P0 qo) (xe P1 qo) (by rw[H2.out];exact xe P2 qo),zl⟩
end Go.Proofs.YtcmepkhjggpmeaaGreat
