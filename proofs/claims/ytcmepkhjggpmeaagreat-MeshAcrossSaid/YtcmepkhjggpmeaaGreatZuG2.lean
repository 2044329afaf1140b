import Derived.Test.YtcmepkhjggpmeaaGreatZuG1
import Derived.Test.YtcmepkhjggpmeaaGreatProg
set_option linter.all false
set_option maxRecDepth 100000
set_option maxHeartbeats 8000000
namespace Go.Proofs.aF.Z
open Go.RowKit Go.Proofs.aD.aY Go.Proofs.aD.bO
theorem zB {W W' w1:World} {g:Nat} {o:Obj} (h:aO (W.heap[g]?=some o)) (hb:Below W'.heap.size W' w1)
  (e:W.heap[g]?=some o->W'.heap[g]?=some o:=by intro h_;(repeat(first|with_reducible refine eG ?_ _|with_reducible refine ej ?_|with_reducible refine dJ ?_ _|refine eB ?_ (aO.out (by assumption)) _));exact h_):aO (w1.heap[g]?=some o):=⟨gP (e h.out) hb⟩
theorem eX {W W' w1:World} {g0:Nat} {o0:Obj} {g1:Nat} {o1:Obj} (h0:aO (W.heap[g0]?=some o0)) (h1:aO (W.heap[g1]?=some o1)) (hb:Below W'.heap.size W' w1) (e0:W.heap[g0]?=some o0->W'.heap[g0]?=some o0:=by intro h_;(repeat(first|with_reducible refine eG ?_ _|with_reducible refine ej ?_|with_reducible refine dJ ?_ _|refine eB ?_ (aO.out (by assumption)) _));exact h_) (e1:W.heap[g1]?=some o1->W'.heap[g1]?=some o1:=by intro h_;(repeat(first|with_reducible refine eG ?_ _|with_reducible refine ej ?_|with_reducible refine dJ ?_ _|refine eB ?_ (aO.out (by assumption)) _));exact h_):aO (w1.heap[g0]?=some o0)/\aO (w1.heap[g1]?=some o1):=⟨zB h0 hb e0,zB h1 hb e1⟩
theorem bC {W W' w1:World} {g0:Nat} {o0:Obj} {g1:Nat} {o1:Obj} {g2:Nat} {o2:Obj} (h0:aO (W.heap[g0]?=some o0)) (h1:aO (W.heap[g1]?=some o1)) (h2:aO (W.heap[g2]?=some o2)) (hb:Below W'.heap.size W' w1) (e0:W.heap[g0]?=some o0->W'.heap[g0]?=some o0:=by intro h_;(repeat(first|with_reducible refine eG ?_ _|with_reducible refine ej ?_|with_reducible refine dJ ?_ _|refine eB ?_ (aO.out (by assumption)) _));exact h_) (e1:W.heap[g1]?=some o1->W'.heap[g1]?=some o1:=by intro h_;(repeat(first|with_reducible refine eG ?_ _|with_reducible refine ej ?_|with_reducible refine dJ ?_ _|refine eB ?_ (aO.out (by assumption)) _));exact h_) (e2:W.heap[g2]?=some o2->W'.heap[g2]?=some o2:=by intro h_;(repeat(first|with_reducible refine eG ?_ _|with_reducible refine ej ?_|with_reducible refine dJ ?_ _|refine eB ?_ (aO.out (by assumption)) _));exact h_):aO (w1.heap[g0]?=some o0)/\aO (w1.heap[g1]?=some o1)/\aO (w1.heap[g2]?=some o2):=⟨zB h0 hb e0,zB h1 hb e1,zB h2 hb e2⟩
theorem jx {W W' w1:World} {g0:Nat} {o0:Obj} {g1:Nat} {o1:Obj} {g2:Nat} {o2:Obj} {g3:Nat} {o3:Obj} (h0:aO (W.heap[g0]?=some o0)) (h1:aO (W.heap[g1]?=some o1)) (h2:aO (W.heap[g2]?=some o2)) (h3:aO (W.heap[g3]?=some o3)) (hb:Below W'.heap.size W' w1) (e0:W.heap[g0]?=some o0->W'.heap[g0]?=some o0:=by intro h_;(repeat(first|with_reducible refine eG ?_ _|with_reducible refine ej ?_|with_reducible refine dJ ?_ _|refine eB ?_ (aO.out (by assumption)) _));exact h_) (e1:W.heap[g1]?=some o1->W'.heap[g1]?=some o1:=by intro h_;(repeat(first|with_reducible refine eG ?_ _|with_reducible refine ej ?_|with_reducible refine dJ ?_ _|refine eB ?_ (aO.out (by assumption)) _));exact h_) (e2:W.heap[g2]?=some o2->W'.heap[g2]?=some o2:=by intro h_;(repeat(first|with_reducible refine eG ?_ _|with_reducible refine ej ?_|with_reducible refine dJ ?_ _|refine eB ?_ (aO.out (by assumption)) _));exact h_) (e3:W.heap[g3]?=some o3->W'.heap[g3]?=some o3:=by intro h_;(repeat(first|with_reducible refine eG ?_ _|with_reducible refine ej ?_|with_reducible refine dJ ?_ _|refine eB ?_ (aO.out (by assumption)) _));exact h_):aO (w1.heap[g0]?=some o0)/\aO (w1.heap[g1]?=some o1)/\aO (w1.heap[g2]?=some o2)/\aO (w1.heap[g3]?=some o3):=⟨zB h0 hb e0,zB h1 hb e1,zB h2 hb e2,zB h3 hb e3⟩
theorem EH {W W' w1:World} {g0:Nat} {o0:Obj} {g1:Nat} {o1:Obj} {g2:Nat} {o2:Obj} {g3:Nat} {o3:Obj} {g4:Nat} {o4:Obj} (h0:aO (W.heap[g0]?=some o0)) (h1:aO (W.heap[g1]?=some o1)) (h2:aO (W.heap[g2]?=some o2)) (h3:aO (W.heap[g3]?=some o3)) (h4:aO (W.heap[g4]?=some o4)) (hb:Below W'.heap.size W' w1) (e0:W.heap[g0]?=some o0->W'.heap[g0]?=some o0:=by intro h_;(repeat(first|with_reducible refine eG ?_ _|with_reducible refine ej ?_|with_reducible refine dJ ?_ _|refine eB ?_ (aO.out (by assumption)) _));exact h_) (e1:W.heap[g1]?=some o1->W'.heap[g1]?=some o1:=by intro h_;(repeat(first|with_reducible refine eG ?_ _|with_reducible refine ej ?_|with_reducible refine dJ ?_ _|refine eB ?_ (aO.out (by assumption)) _));exact h_) (e2:W.heap[g2]?=some o2->W'.heap[g2]?=some o2:=by intro h_;(repeat(first|with_reducible refine eG ?_ _|with_reducible refine ej ?_|with_reducible refine dJ ?_ _|refine eB ?_ (aO.out (by assumption)) _));exact h_) (e3:W.heap[g3]?=some o3->W'.heap[g3]?=some o3:=by intro h_;(repeat(first|with_reducible refine eG ?_ _|with_reducible refine ej ?_|with_reducible refine dJ ?_ _|refine eB ?_ (aO.out (by assumption)) _));exact h_) (e4:W.heap[g4]?=some o4->W'.heap[g4]?=some o4:=by intro h_;(repeat(first|with_reducible refine eG ?_ _|with_reducible refine ej ?_|with_reducible refine dJ ?_ _|refine eB ?_ (aO.out (by assumption)) _));exact h_):aO (w1.heap[g0]?=some o0)/\aO (w1.heap[g1]?=some o1)/\aO (w1.heap[g2]?=some o2)/\aO (w1.heap[g3]?=some o3)/\aO (w1.heap[g4]?=some o4):=⟨zB h0 hb e0,zB h1 hb e1,zB h2 hb e2,zB h3 hb e3,zB h4 hb e4⟩
theorem zN {W W':World} {g g':Nat} {o:Obj} (hg:g'=W'.heap.size) (h:aO (W.heap[g]?=some o))
  (e:W.heap[g]?=some o->W'.heap[g]?=some o:=by intro h_;(repeat(first|with_reducible refine eG ?_ _|with_reducible refine ej ?_|with_reducible refine dJ ?_ _|refine eB ?_ (aO.out (by assumption)) _));exact h_):aO (g≠g'):=⟨by rw[hg];exact Nat.ne_of_lt (oh (e h.out))⟩
theorem zM {W W':World} {g g':Nat} {o:Obj} (hg:g'=W'.heap.size) (h:aO (W.heap[g]?=some o))
  (e:W.heap[g]?=some o->W'.heap[g]?=some o:=by intro h_;(repeat(first|with_reducible refine eG ?_ _|with_reducible refine ej ?_|with_reducible refine dJ ?_ _|refine eB ?_ (aO.out (by assumption)) _));exact h_):aO (g'≠g):=⟨fun hc=>(zN hg h e).out hc.symm⟩
theorem zT {w W W':World} (h:aO (Below w.heap.size w W))
  (e:Below w.heap.size w W->Below w.heap.size w W':=by intro h_;repeat(first|(with_reducible first|exact h_|apply ym|apply ID|apply L8|refine Qq ?_ (aO.out (by assumption)))|exact h_)):Below w.heap.size w W':=e h.out
theorem zS {w W W' w2:World} (h:aO (Below w.heap.size w W)) (hb:Below W'.heap.size W' w2)
  (e:Below w.heap.size w W->Below w.heap.size w W':=by intro h_;repeat(first|(with_reducible first|exact h_|apply ym|apply ID|apply L8|refine Qq ?_ (aO.out (by assumption)))|exact h_)):aO (Below w.heap.size w w2):=⟨afx (e h.out) hb⟩
theorem zG {w W W':World} {g:Nat} (hg:g=W'.heap.size) (h:aO (Below w.heap.size w W))
  (e:Below w.heap.size w W->Below w.heap.size w W':=by intro h_;repeat(first|(with_reducible first|exact h_|apply ym|apply ID|apply L8|refine Qq ?_ (aO.out (by assumption)))|exact h_)):aO (w.heap.size<=g):=⟨by rw[hg];exact tj (e h.out)⟩
theorem zD {W:World} {g:Nat} {o:Obj} (h:aO (W.heap[g]?=some o)):aO (W.drew.heap[g]?=some o):=⟨ej h.out⟩
theorem zF {B:Nat} {w W:World} (h:aO (Below B w W)):aO (Below B w W.drew):=⟨L8 h.out⟩
theorem z1 {w:World} {g t:Nat} {a:Value} (h:aO (w.heap[g]?=some (.cells #[a] t (0,0)))) :
  w.cell? ⟨g,0,none⟩=some a/\w.frozen? ⟨g,0,none⟩=false:=⟨(gB h.out 0).trans rfl,bU h.out 0⟩
theorem z2 {w:World} {g t:Nat} {a b:Value} (h:aO (w.heap[g]?=some (.cells #[a,b] t (0,0)))) :
  w.cell? ⟨g,0,none⟩=some a/\w.cell? ⟨g,1,none⟩=some b/\w.frozen? ⟨g,0,none⟩=false/\w.frozen? ⟨g,1,none⟩=false:=⟨(gB h.out 0).trans rfl,(gB h.out 1).trans rfl,bU h.out 0,bU h.out 1⟩
theorem z3 {w:World} {g t:Nat} {a b c:Value} (h:aO (w.heap[g]?=some (.cells #[a,b,c] t (0,0)))) :
  w.cell? ⟨g,0,none⟩=some a/\w.cell? ⟨g,1,none⟩=some b/\w.cell? ⟨g,2,none⟩=some c/\w.frozen? ⟨g,0,none⟩=false/\w.frozen? ⟨g,1,none⟩=false/\w.frozen? ⟨g,2,none⟩=false:=⟨(gB h.out 0).trans rfl,(gB h.out 1).trans rfl,(gB h.out 2).trans rfl,bU h.out 0,bU h.out 1,bU h.out 2⟩
theorem z6 {w:World} {g t:Nat} {a b c d e f:Value} (h:aO (w.heap[g]?=some (.cells #[a,b,c,d,e,f] t (0,0)))) :
  w.cell? ⟨g,0,none⟩=some a/\w.cell? ⟨g,1,none⟩=some b/\w.cell? ⟨g,2,none⟩=some c/\w.cell? ⟨g,3,none⟩=some d/\w.cell? ⟨g,4,none⟩=some e/\w.cell? ⟨g,5,none⟩=some f/\w.frozen? ⟨g,0,none⟩=false/\w.frozen? ⟨g,1,none⟩=false/\w.frozen? ⟨g,2,none⟩=false/\w.frozen? ⟨g,3,none⟩=false/\w.frozen? ⟨g,4,none⟩=false/\w.frozen? ⟨g,5,none⟩=false :=
 ⟨(gB h.out 0).trans rfl,(gB h.out 1).trans rfl,(gB h.out 2).trans rfl,(gB h.out 3).trans rfl,(gB h.out 4).trans rfl,(gB h.out 5).trans rfl,bU h.out 0,bU h.out 1,bU h.out 2,bU h.out 3,bU h.out 4,bU h.out 5⟩
section
variable {P:Program} {ops:Array Oper} {Q:Exit->Act->World->Prop}
theorem zY {rest:List Oper} {oi:Oper} {a:Act} {W:World} (N:Tmp) (cs:Array Value) (t:TypeId)
  (h:∀ g,g=W.heap.size->∀ w1,w1.heap[g]?=some (.cells cs t (0,0))->Below W.heap.size W w1->wpList P ops Q rest (a.put oi.dst (.pointer (some ⟨g,0,none⟩))) w1)
  (hd:oi.dst=some N:=by rfl) (hg:oi.guard=none:=by rfl)
  (hr:(execOp a.eval oi).run P W = .ok (.value (.pointer (some ⟨W.heap.size,0,none⟩))) (W.alloc (.cells cs t (0,0))):=by first|(go_simp;done)|(go_simp;rfl)):wpList P ops Q (oi::rest) a W:=afP hg hd hr h
theorem zQ {W W':World} {g g':Nat} {o:Obj} (hg:g'=W'.heap.size) (h:aO (W.heap[g]?=some o))
  (e:W.heap[g]?=some o->W'.heap[g]?=some o:=by intro h_;(repeat(first|with_reducible refine eG ?_ _|with_reducible refine ej ?_|with_reducible refine dJ ?_ _|refine eB ?_ (aO.out (by assumption)) _));exact h_):aO (g≠g')/\aO (g'≠g):=⟨zN hg h e,zM hg h e⟩
theorem zC {rest:List Oper} {oi:Oper} {a:Act} {w:World} {N:Option Tmp} {f:FuncId} {fn:Func} {az:Array Operand} {ts:Array TypeId} (hf:P.funcs[f]?=some fn) (hname:(fn.name=="runtime.NumGoroutine")=false) (args:Array Value)
  (h:Calls P f args w fun e w'=>∃ v,e = .returned v/\wpList P ops Q rest (a.put N v) w')
  (hd:oi.dst=N:=by rfl) (hg:oi.guard=none:=by rfl) (hb:fn.body.isSome=true:=by rfl)
  (hop:oi.op = .call { callee := .value (.func f),args:=az,argTypes:=ts }:=by rfl)
  (hargs:az.map a.eval=args:=by (try simp only[List.map_toArray,List.map_cons,List.map_nil]);first|done|rfl|(simp only[List.length_drop,List.length_take];rfl)):wpList P ops Q (oi::rest) a w :=
 alT N hd hg hf hname hb args hop hargs h
end
section
variable {P:Program} {ops:Array Oper} {Q:Exit->Act->World->Prop} {md:Region.Mode} {S:World->Prop} {ds:List Nat}
theorem zU {i:Nat} {N:Option Tmp} {oi:Oper} {v:Value} {fuel:Nat} {l:Array Bool} {a:Act} {w:World} (l':Array Bool) (hc:J' md ops l l' i=true) {a':Act}
  (h:fI P md ops Q S ds fuel l' a' w)
  (hi:ops[i]?=some oi:=by rfl) (hN:oi.dst=N:=by rfl)
  (hQ:∀ c a w,Q (.panic c) (a.put oi.dst v) w->Q (.panic c) a w:=by exact fun _ _ _ h=>h)
  (hw:Region.wanted oi (yielded ops a.tmps)=true:=by rfl)
  (hy:∀ w,(execOp a.eval oi).run P w = .ok (.value v) w:=by intro w';go_simp;with_reducible rfl)
  (ha:a.put N v=a':=by simp only[Act.put,List.setIfInBounds_toArray,List.set_cons_zero,List.set_cons_succ,dB,dD];rfl) :
  fI P md ops Q S ds (fuel+1) l a w:=iq l' hi hN hc hQ (Or.inl ⟨hw,hy⟩) ha h
theorem zV {i:Nat} {N:Option Tmp} {oi:Oper} {v:Value} {fuel:Nat} {l:Array Bool} {a:Act} {w:World} (l':Array Bool) (hc:Gu md ops ds l l' i=true) (hS:S w) {a':Act}
  (h:fI P md ops Q S ds fuel l' a' w)
  (hi:ops[i]?=some oi:=by rfl) (hN:oi.dst=N:=by rfl)
  (hQ:∀ c a w,Q (.panic c) (a.put oi.dst v) w->Q (.panic c) a w:=by exact fun _ _ _ h=>h)
  (hw:Region.wanted oi (yielded ops a.tmps)=true:=by rfl)
  (hy:∀ w,S w->(execOp a.eval oi).run P w = .ok (.value v) w:=by intro w' hs_;(try dsimp only at hs_);(try go_split_ands);go_simp;with_reducible rfl)
  (ha:a.put N v=a':=by simp only[Act.put,List.setIfInBounds_toArray,List.set_cons_zero,List.set_cons_succ,dB,dD];rfl) :
  fI P md ops Q S ds (fuel+1) l a w:=DU l' hi hN hc hQ (Or.inl ⟨hw,hy⟩) hS ha h
theorem zW (N:Option Tmp) {fuel:Nat} {l:Array Bool} {b a':Act} {v:Value} {w:World} (h:fI P md ops Q S ds fuel l a' w)
  (ha:Act.put b N v=a':=by simp only[Act.put,List.setIfInBounds_toArray,List.set_cons_zero,List.set_cons_succ,dB,dD];rfl):fI P md ops Q S ds fuel l (Act.put b N v) w:=iW ha h
theorem zX {oi:Oper} {N:Option Tmp} {a:Act} {w:World} {K:Act->World->Prop} {f:FuncId} {fn:Func} {az:Array Operand} {ts:Array TypeId} (hf:P.funcs[f]?=some fn) (hname:(fn.name=="runtime.NumGoroutine")=false) (args:Array Value)
  (h:Calls P f args w fun e w'=>∃ v,e = .returned v/\K (a.put N v) w')
  (hb:fn.body.isSome=true:=by rfl)
  (hw:Region.wanted oi (yielded ops a.tmps)=true:=by rfl) (hN:oi.dst=N:=by rfl)
  (hop:oi.op = .call { callee := .value (.func f),args:=az,argTypes:=ts }:=by rfl)
  (hargs:az.map a.eval=args:=by (try simp only[List.map_toArray,List.map_cons,List.map_nil]);first|done|rfl|(simp only[List.length_drop,List.length_take];rfl)) :
  if Region.wanted oi (yielded ops a.tmps)=true then Oper.wp P oi a w K Q else K (a.put N undef) w:=amH hf hname hb args hw hN hop hargs h
theorem xA (w:World) (a b:Value):(Instr.field 38 (.agg #[a,b]) 0).run Tryz.prog w = .ok a w:=by kernel_rfl
theorem xB (w:World) (a b:Value):(Instr.field 38 (.agg #[a,b]) 1).run Tryz.prog w = .ok b w:=by kernel_rfl
theorem xC (w:World) (a b c:Value):(Instr.field 40 (.agg #[a,b,c]) 0).run Tryz.prog w = .ok (.agg #[a,b]) w:=by kernel_rfl
theorem xD (w:World) (a b c:Value):(Instr.field 40 (.agg #[a,b,c]) 1).run Tryz.prog w = .ok c w:=by kernel_rfl
theorem zK {W W':World} {g:Nat} {o:Obj} (h:aO (W.heap[g]?=some o))
  (e:W.heap[g]?=some o->W'.heap[g]?=some o:=by intro h_;(repeat(first|with_reducible refine eG ?_ _|with_reducible refine ej ?_|with_reducible refine dJ ?_ _|refine eB ?_ (aO.out (by assumption)) _));exact h_):aO (W'.heap[g]?=some o):=⟨e h.out⟩
theorem zL {a b:Nat} (e:a<=b:=by first|omega|exact Nat.le_refl _):aO (a<=b):=⟨e⟩
theorem zA {a a':Act} {w:World} {fuel:Nat} {l:Array Bool} (h:fI P md ops Q S ds fuel l a' w)
  (ha:a=a':=by first|(simp only[ij,Act.put,List.setIfInBounds_toArray,List.set_cons_zero,List.set_cons_succ];done)|(simp only[ij,Act.put,List.setIfInBounds_toArray,List.set_cons_zero,List.set_cons_succ];rfl)):fI P md ops Q S ds fuel l a w:=iW ha h
theorem VJ {α:Type} [BEq α] (l:List α):(l != [])=!l.isEmpty:=by cases l <;> rfl
theorem zR {α:Type} {a b:α} (e:a=b:=by first|rfl|(simp;done)|(simp[VJ];done)|(simp[*];done)):a=b:=e
theorem zP {w:World} {g:Nat} {t:TypeId} {cs cs':Array Value} (h:w.heap[g]?=some (.cells cs t (0,0))) (i:Nat) (u:Value) (e:cs.setIfInBounds i u=cs':=by first|rfl|(simp only[VJ];rfl)):(w.setCell ⟨g,i,none⟩ u).heap[g]?=some (.cells cs' t (0,0)):=FU h i u e
end
theorem zo {α β:Type} {x:Option α} {f:α->Option β} {r:β} (h:x.bind f=some r):∃ t,aO (x=some t)/\f t=some r:=by
 obtain⟨t,a,b⟩:=Option.bind_eq_some_iff.mp h;exact⟨t,⟨a⟩,b⟩
theorem zn:¬ (false=true):=by decide
theorem zc {w:World} {g t:Nat} {cs:Array Value} {v:Value} (h:aO (w.heap[g]?=some (.cells cs t (0,0)))) (i:Nat) (e:cs[i]?=some v:=by rfl):w.cell? ⟨g,i,none⟩=some v:=(gB h.out i).trans e
theorem zH {α:Type} {a b:α} (e:a=b:=by first|rfl|(simp[XK,XL] <;> rfl)|(simp[*,XK,XL] <;> rfl)):a=b:=e
def zb (n m:Nat):Array Bool:=((List.range n).map m.testBit).toArray
theorem zJ {P:Program} {Q:Exit->Act->World->Prop} {oi:Oper} {ops:Array Oper} {N:Option Tmp} {a:Act} {w:World} {K:Act->World->Prop} {f:FuncId} {fn:Func} {az:Array Operand} {ts:Array TypeId} {args:Array Value} {v:Value} (hf:P.funcs[f]?=some fn) (hname:(fn.name=="runtime.NumGoroutine")=false)
  (hc:Calls P f args w fun e w'=>e = .returned v/\Below w.heap.size w w')
  (h:∀ w',Below w.heap.size w w'->K (a.put N v) w')
  (hb:fn.body.isSome=true:=by rfl)
  (hw:Region.wanted oi (yielded ops a.tmps)=true:=by rfl) (hN:oi.dst=N:=by rfl)
  (hop:oi.op = .call { callee := .value (.func f),args:=az,argTypes:=ts }:=by rfl)
  (hargs:az.map a.eval=args:=by (try simp only[List.map_toArray,List.map_cons,List.map_nil]);first|done|rfl|(simp only[List.length_drop,List.length_take];rfl)) :
  if Region.wanted oi (yielded ops a.tmps)=true then Oper.wp P oi a w K Q else K (a.put N undef) w :=
 zX hf hname args (hc.mono fun e w' he=>⟨_,he.1,h w' he.2⟩) hb hw hN hop hargs
theorem zO {P:Program} {ops:Array Oper} {Q:Exit->Act->World->Prop} {rest:List Oper} {oi:Oper} {a:Act} {w:World} {N:Option Tmp} {f:FuncId} {fn:Func} {az:Array Operand} {ts:Array TypeId} {args:Array Value} {v:Value} (hf:P.funcs[f]?=some fn) (hname:(fn.name=="runtime.NumGoroutine")=false)
  (hc:Calls P f args w fun e w'=>e = .returned v/\Below w.heap.size w w')
  (h:∀ w',Below w.heap.size w w'->wpList P ops Q rest (a.put N v) w')
  (hd:oi.dst=N:=by rfl) (hg:oi.guard=none:=by rfl) (hb:fn.body.isSome=true:=by rfl)
  (hop:oi.op = .call { callee := .value (.func f),args:=az,argTypes:=ts }:=by rfl)
  (hargs:az.map a.eval=args:=by (try simp only[List.map_toArray,List.map_cons,List.map_nil]);first|done|rfl|(simp only[List.length_drop,List.length_take];rfl)):wpList P ops Q (oi::rest) a w :=
 zC hf hname args (hc.mono fun e w' he=>⟨_,he.1,h w' he.2⟩) hd hg hb hop hargs
theorem zPe {w:World} {g:Nat} {t:TypeId} {cs cs':Array Value} {i:Nat} {u:Value} (h:w.heap[g]?=some (.cells cs t (0,0))) (e:cs.setIfInBounds i u=cs'):(w.setCell ⟨g,i,none⟩ u).heap[g]?=some (.cells cs' t (0,0)):=FU h i u e
theorem zFe {w:World} {g:Nat} {t:TypeId} {cs:Array Value} {p:Addr} {u:Value} (h:w.heap[g]?=some (.cells cs t (0,0))) (hp:aO (g≠p.block)):(w.setCell p u).heap[g]?=some (.cells cs t (0,0)):=eB h hp.out u
theorem Kx {p q:Prop} (h:aO q) (e:q->p:=by intro h_;(repeat(first|with_reducible refine eG ?_ _|with_reducible refine ej ?_|with_reducible refine dJ ?_ _|with_reducible apply zPe|(with_reducible apply zFe;case hp=>assumption)));exact h_;all_goals first|rfl|(simp only[VJ];rfl)):p:=e h.out
end Go.Proofs.aF.Z
