import Derived.Test.YtcmepkhjggpmeaaGreatZuG52
import Derived.Test.YtcmepkhjggpmeaaGreatRows
import Derived.ProofKit
import Derived.OpenShut
import Derived.ShutString
import Derived.ChangeOld
import Derived.Deep.Slices
import Derived.Lib.SmallJoins
set_option linter.all false
set_option maxRecDepth 100000
set_option maxHeartbeats 8000000
namespace Go.Proofs.YtcmepkhjggpmeaaGreat.meshAcross
open Go.ChangeShapes Go.WideShapes Go.ChangeAt Go.RowKit Go.Proofs.aF.R Go.Proofs.aD.aY
theorem own:ownKnob Tryz.prog.godebug=none:=by kernel_rfl
theorem laidOut:laidOutB Tryz.prog=true:=by kernel_rfl
theorem cP:Tryz.prog.cellsOf 54=6:=by kernel_rfl
theorem cT:Tryz.prog.cellsOf 69=3:=by kernel_rfl
theorem cS:Tryz.prog.cellsOf 65=3:=by kernel_rfl
theorem cR:Tryz.prog.cellsOf 40=3:=by kernel_rfl
theorem cI:Tryz.prog.cellsOf 38=2:=by kernel_rfl
theorem cN:Tryz.prog.cellsOf 36=1:=by kernel_rfl
theorem cB:Tryz.prog.cellsOf 4=1:=by kernel_rfl
theorem ci:Tryz.prog.cellsOf 3=1:=by kernel_rfl
theorem cM:Tryz.prog.cellsOf 26=3:=by kernel_rfl
theorem cM0:Tryz.prog.cellsOf 22=1:=by kernel_rfl
theorem cM1:Tryz.prog.cellsOf 23=1:=by kernel_rfl
theorem cM2:Tryz.prog.cellsOf 24=1:=by kernel_rfl
theorem three {α:Type} {cs:List α} (h:cs.length=3):∃ a b c,cs=[a,b,c]:=by
 match cs,h with
 | [a,b,c],_=>exact⟨a,b,c,rfl⟩
theorem six {α:Type} {cs:List α} (h:cs.length=6):∃ a b c d e f,cs=[a,b,c,d,e,f]:=by
 match cs,h with
 | [a,b,c,d,e,f],_=>exact⟨a,b,c,d,e,f,rfl⟩
section
variable {H:Type} {enc:TypeId × Value->H} {w:World}
theorem Yx {n:Nat} {c0 c1 c2:Value} {y:DataW H × List MemPlace} (h:DataW.trod enc Tryz.prog w 0 (fun _=>true) true n 40 [c0,c1,c2]=some y):∃ x:aH,c0 = .bool x.f0.f0/\c1 = .string x.f0.f1/\c2 = .string x.f1:=by
 obtain⟨y0,y1,n,-,-,h0,h1⟩:=trod_struct2 Tryz.underlying40 h;have h2:DataW.trod enc Tryz.prog w 0 (fun _=>true) true n 38 [c0,c1]=some y0:=by simpa [cI] using h0
 have h3:DataW.trod enc Tryz.prog w 0 (fun _=>true) true n 36 [c2]=some y1:=by simpa [cN] using h1
 obtain⟨z0,z1,m,-,-,g0,g1⟩:=trod_struct2 Tryz.underlying38 h2;have g2:DataW.trod enc Tryz.prog w 0 (fun _=>true) true m 4 [c0]=some z0:=by simpa [cB] using g0
 have g3:DataW.trod enc Tryz.prog w 0 (fun _=>true) true m 36 [c1]=some z1:=by simpa [cN] using g1
 obtain⟨b,hb,-⟩:=DataW.trod_bool Tryz.underlying4 g2;obtain⟨s,hs,-⟩:=DataW.trod_string Tryz.underlying36 g3;obtain⟨s2,hs2,-⟩:=DataW.trod_string Tryz.underlying36 h3;exact⟨⟨⟨b,s⟩,s2⟩,by simpa using hb,by simpa using hs,by simpa using hs2⟩
theorem alN {n:Nat} {cs:List Value} {y:DataW H × List MemPlace} (hl:cs.length=6) (h:DataW.trod enc Tryz.prog w 0 (fun _=>true) true n 54 cs=some y):∃ x:aZ,eA.K w x cs:=by
 obtain⟨c0,c1,c2,c3,c4,c5,rfl⟩:=six hl;obtain⟨y0,y1,n,-,-,h0,h1⟩:=trod_struct2 Tryz.underlying54 h;have h2:DataW.trod enc Tryz.prog w 0 (fun _=>true) true n 40 [c0,c1,c2]=some y0:=by simpa [cR] using h0
 have h3:DataW.trod enc Tryz.prog w 0 (fun _=>true) true n 40 [c3,c4,c5]=some y1:=by simpa [cR] using h1
 obtain⟨x0,rfl,rfl,rfl⟩:=Yx h2;obtain⟨x1,rfl,rfl,rfl⟩:=Yx h3;exact⟨⟨x0,x1⟩,JB w ⟨x0,x1⟩⟩
theorem ah2 {n:Nat} {cs:List Value} {y:DataW H × List MemPlace} (hl:cs.length=3) (h:DataW.trod enc Tryz.prog w 0 (fun _=>true) true n 65 cs=some y):∃ x:pT,tZ.K w x cs:=by
 obtain⟨c0,c1,c2,rfl⟩:=three hl;obtain⟨xs,n,-,-,-,hxl,hf⟩:=DataW.trod_struct Tryz.underlying65 h;obtain⟨x0,x1,x2,rfl⟩:=three hxl;have g0:=hf 0 _ rfl;have g1:=hf 1 _ rfl;have g2:=hf 2 _ rfl;simp[ci,cB]at g0 g1 g2
 obtain⟨a,ha,-⟩:=DataW.trod_int Tryz.underlying3 g0;obtain⟨b,hb,-⟩:=DataW.trod_int Tryz.underlying3 g1;obtain⟨c,hc,-⟩:=DataW.trod_bool Tryz.underlying4 g2;simp only[List.cons.injEq,and_true]at ha hb hc;rw[ha,hb,hc];exact⟨⟨a,b,c⟩,al7 w ⟨a,b,c⟩⟩
theorem ah3 {n:Nat} {cs:List Value} {y:DataW H × List MemPlace} (hl:cs.length=3) (h:DataW.trod enc Tryz.prog w 0 (fun _=>true) true n 69 cs=some y):∃ g:Nat->Int,∀ r,r<3->cs[r]?=some (.int .i64 (g r)):=by
 obtain⟨c0,c1,c2,rfl⟩:=three hl;obtain⟨xs,n,-,-,-,hxl,hf⟩:=DataW.trod_array Tryz.underlying69 h;obtain⟨x0,x1,x2,rfl⟩:=three hxl;have g0:=hf 0 qd;have g1:=hf 1 qd;have g2:=hf 2 qd;simp[ci]at g0 g1 g2
 obtain⟨a,ha,-⟩:=DataW.trod_int Tryz.underlying3 g0;obtain⟨b,hb,-⟩:=DataW.trod_int Tryz.underlying3 g1;obtain⟨c,hc,-⟩:=DataW.trod_int Tryz.underlying3 g2;simp only[List.cons.injEq,and_true]at ha hb hc;rw[ha,hb,hc];refine⟨fun r=>[a,b,c].getD r 0,fun r hr=>?_⟩;match r,hr with
 | 0,_=>rfl
 | 1,_=>rfl
 | 2,_=>rfl
instance:Inhabited aZ:=⟨z54⟩
instance:Inhabited pT:=⟨V8⟩
theorem RR {α:Type} [Inhabited α] {R:α->List Value->Prop} {t e sz n:Nat} {cs:List Value} {y:DataW H × List MemPlace} (ht:Tryz.prog.underlying t=some (.slice e)) (hc:Tryz.prog.cellsOf e=sz)
  (el:∀ m cs' y',cs'.length=sz->DataW.trod enc Tryz.prog w 0 (fun _=>true) true m e cs'=some y'->∃ x,R x cs') (h:DataW.trod enc Tryz.prog w 0 (fun _=>true) true n t cs=some y) :
  ∃ A c ps,cs=[.slice A ps.length c]/\ps.length<=c/\vI R sz w A ps.length ps:=by
 rcases Go.Deep.open_slice ht h with ⟨rfl,-⟩|⟨a,len,cap,m,n,D,Pl,rfl,-,hl,hm,hmm,-,hx⟩
 ·exact⟨none,0,[],rfl,Nat.le_refl _,rfl,by simp,fun h=>absurd h (by simp)⟩
 ·rw[hc]at hx
  have hm':m=cap:=by rw[hmm];rfl
  obtain⟨f,hf⟩:=Go.Deep.choose_lt (α:=α) (n:=len) (p:=fun i x=>∃ cs',w.cells? 0 (a.add (i*sz)) sz=some cs'/\R x cs') (fun i hi=>by
   obtain⟨cs',h1,h2⟩:=hx i qo;obtain⟨x,hx⟩:=el _ _ _ (World.cells?_some h1).2.1 h2;exact⟨x,cs',h1,hx⟩)
  refine⟨some a,cap,(List.range len).map f,by simp,by simpa using hl,rfl,Nat.le_trans (by simpa using Nat.le_trans hl hm) (show maxLen<=9223372036854775807 by decide),fun _=>⟨a,rfl,fun j p hj=>?_⟩⟩;rw[List.getElem?_map]at hj
  obtain⟨j',hj',rfl⟩:=Option.map_eq_some_iff.1 hj;obtain⟨hlt,rfl⟩:=List.getElem?_eq_some_iff.1 hj';simp at hlt;obtain⟨cs',h1,h2⟩:=hf j hlt;obtain⟨-,hlen,hcell⟩:=World.cells?_some h1;refine⟨cs',hlen,by simpa using h2,fun i u hu=>?_⟩;have hi:=(List.getElem?_eq_some_iff.1 hu).1;rw[<- hu,<- hcell i qo,Addr.add_add]
theorem ahb {r:Reach} {b0:Nat} {v:Value} {d:DataW H} {ps:List MemPlace} (hv:Value.okWide Tryz.prog w r b0 26 v) (h:DataW.Trod enc Tryz.prog w 0 (fun _=>true) true 26 v d ps) :
  ∃ (A0 A1 A2:Option Addr) (c0 n1 c1 c2:Nat) (P:PS) (zs:List Int) (S:SS),v = .agg #[.slice A0 P.length c0,.slice A1 n1 c1,.slice A2 S.length c2]/\zs.length=3*n1/\ow w A0 A1 A2 c0 c2 P zs n1 S:=by
 obtain⟨cs,rfl,hsz⟩:=okWide_struct Tryz.underlying26 hv;obtain⟨v0,v1,v2,rfl⟩:=Joins.array3 (hsz.trans cM);obtain⟨n,hf⟩:=h;obtain⟨xs,n,-,-,-,hxl,hf⟩:=DataW.trod_struct Tryz.underlying26 hf;obtain⟨x0,x1,x2,rfl⟩:=three hxl;have g0:=hf 0 _ rfl;have g1:=hf 1 _ rfl;have g2:=hf 2 _ rfl;simp[Value.cells,cM0,cM1,cM2]at g0 g1 g2
 obtain⟨A0,c0,P,e0,l0,r0⟩:=RR (α:=aZ) Tryz.underlying22 cP (fun m cs' y' hl hy=>alN hl hy) g0;obtain⟨A2,c2,S,e2,l2,r2⟩:=RR (α:=pT) Tryz.underlying24 cS (fun m cs' y' hl hy=>ah2 hl hy) g2;obtain⟨A1,c1,T,e1,l1,r1⟩:=RR (α:=Nat->Int) Tryz.underlying23 cT (fun m cs' y' hl hy=>ah3 hl hy) g1;simp only[List.cons.injEq,and_true]at e0 e1 e2;rw[e0,e1,e2];refine⟨A0,A1,A2,c0,T.length,c1,c2,P,(List.range (3*T.length)).map (fun j=>(T.getD (j / 3) (fun _=>0)) (j%3)),S,rfl,by simp,⟨r0,l0,fun h0=>?_,r2,l2⟩⟩;obtain⟨ad,rfl,hc⟩:=r1.2.2 qo;refine⟨ad,rfl,fun j hj=>?_⟩;have hlt:j / 3<T.length:=by omega
 obtain⟨c,bW,hR,hcc⟩:=hc (j / 3) _ (List.getElem?_eq_getElem hlt);have:=hcc (j%3) _ (hR (j%3) qo);rw[show j / 3*3+j%3=j by omega]at this
 rw[this,List.getD_eq_getElem?_getD,List.getElem?_map,List.getElem?_range hj];simp[List.getD_eq_getElem?_getD,hlt]
end
theorem lifted (os:Os) (started:os.Started) (H:Type) (enc:TypeId × Value->H) :
  ReturnsInHanded {} Tryz.checked os 3 .any (Rows.meshAcrossSpec.pre6 enc Tryz.prog Tryz.f3 Rows.meshAcrossRow.domain false) (Rows.meshAcrossSpec.post enc Tryz.prog Tryz.f3 false true false false):=by
 refine returnsInHanded_of_change_sized (C:=Tryz.checked) own started qk Tryz.func3
  (ChangeSpec.witness6 (enc:=enc) (C:=Tryz.checked) false ⟨#[],#[.agg #[.slice none 0 0,.slice none 0 0,.slice none 0 0],.int .i64 0,.int .i64 0],[]⟩ 8 qk qk qk qk) ?_
 intro W base args ds gs before ab7 hW hcnd asa _;have hval:∀ (j:Nat) t v,Tryz.f3.params[j]?=some t->args[j]?=some v->Value.okWide Tryz.prog W .any base t v:=ab7;have hW':=hW;obtain⟨p,q,hA0,hV,rfl,hfz,hnd⟩:=hW;have hA:DataW.TrodAll enc Tryz.prog W 0 (fun _=>true) true Tryz.f3.params.toList args.toList ds p:=hA0;rw[Tryz.params3]at hA hval
 obtain⟨v0,vs0,d0,ds0,p0,q0,hargs,rfl,rfl,h0,r0⟩:=trodAll_cons hA;obtain⟨v1,vs1,d1,ds1,p1,q1,rfl,rfl,rfl,h1,r1⟩:=trodAll_cons r0;obtain⟨v2,vs2,d2,ds2,p2,q2,rfl,rfl,rfl,h2,r2⟩:=trodAll_cons r1;obtain⟨rfl,rfl,rfl⟩:=trodAll_nil r2;obtain rfl:args=#[v0,v1,v2]:=by cases args;simp_all
 obtain⟨rfl,rfl⟩:=trodVars_none hV;have lt0:∀ x∈p0,x.block<W.heap.size:=by obtain⟨m,hm⟩:=h0;exact DataW.trod_lt m _ _ _ hm
 obtain⟨A0,A1,A2,c0,n1,c1,c2,P,zs,S,rfl,hz,hM⟩:=ahb (hval 0 26 v0 rfl rfl) h0;obtain⟨a1,rfl,rfl,rfl,w1⟩:=open_int Tryz.underlying3 (hval 1 3 v1 rfl rfl) h1;obtain⟨a2,rfl,rfl,rfl,w2⟩:=open_int Tryz.underlying3 (hval 2 3 v2 rfl rfl) h2;clear hA0 ab7 asa;refine(ah1 A0 A1 A2 c0 n1 c1 c2 P zs S W hM a1 a2).mono fun e W' ⟨he,ey⟩=>?_;subst he;exact⟨_,rfl,_,_,_,[],_,[],hW',trodAll_mk1 (shut_bool Tryz.underlying4 _),(trodAll_cons_mk (Below.trod laidOut qk (of_decide_eq_true qk) h0 ey lt0) (trodAll_cons_mk (shut_int Tryz.underlying3 w1) (trodAll_cons_mk (shut_int Tryz.underlying3 w2) trodAll_mk0))),rfl,ey.frame _,fun h=>by cases h⟩
theorem over:Rows.meshAcrossRow.holds Tryz.pinned (OpenSpec.ofChange Rows.meshAcrossSpec) :=
 OpenClaim.holds_of_wide 3 Tryz.f3 rfl rfl rfl rfl rfl rfl rfl ⟨rfl,rfl,rfl,rfl,rfl⟩ rfl rfl rfl rfl rfl qk Tryz.func3 qk
  (of_decide_eq_true qk) (by unfold Func.isWrapper;first|(rw[if_pos (by decide +kernel)];kernel_rfl)|(rw[if_neg (by decide +kernel)];exact⟨rfl,rfl⟩))
  (fun os started H enc _=>lifted os started H enc)
theorem proved:Rows.MeshAcrossSaid:=over
#print axioms proved
end Go.Proofs.YtcmepkhjggpmeaaGreat.meshAcross
