import Derived.Test.YtcmepkhjggpmeaaGreatZuG50
import Derived.Maps.RangeWalk
import Derived.Maps.Ext
set_option linter.all false
set_option maxRecDepth 100000
set_option maxHeartbeats 8000000
namespace Go.Proofs.YtcmepkhjggpmeaaGreat
open Go.RowKit aP Go.Maps Go.Proofs.aF.R Go.Proofs.aF.Z Go.Proofs.aD.aY
set_option maxRecDepth 100000
theorem qw {α:Type} {cs:List α} (h:cs.length=2):∃ a b,cs=[a,b]:=by
 match cs,h with
 | [a,b],_=>exact⟨a,b,rfl⟩
theorem RO {M:Nat} {u:Value} {ls:List Lit} (h:Tryz.prog.keyLits (M+1) 3 [u]=some ls):∃ a,u = .int .i64 a/\W6 a/\ls=[.int .i64 a]:=by
 have h3:=Tryz.underlying3;unfold Program.keyLits at h;rw[h3]at h
 cases u <;> simp at h
 obtain⟨⟨rfl,hw⟩,rfl⟩:=h;exact⟨_,rfl,hw,rfl⟩
theorem aax {v:Value} {kl:Lit} (h:keyOf Tryz.prog 73 v=some kl):∃ a b,v = .agg #[.int .i64 a,.int .i64 b]/\W6 a/\W6 b/\kl=ek a b:=by
 obtain⟨M,hM⟩:∃ M,Tryz.prog.types.size=M+1:=Ze TY;have h0:=h;unfold keyOf at h;rw[Tryz.underlying73]at h
 simp only[abj,Bool.true_and]at h;split at h
 ·rename_i hf
  cases v with
  | agg cs =>
   have hs:cs.size=2:=by simpa [Value.formed,Tryz.underlying73,MU] using hf
   obtain⟨x,y,hxy⟩:=qw (cs:=cs.toList) (by simpa using hs);obtain rfl:cs=#[x,y]:=Array.ext' hxy;rw[hM]at h
   have e:∀ u z,Tryz.prog.keyLits (M+1) 3 [u]=some z->∃ a,u = .int .i64 a/\W6 a/\z=[.int .i64 a]:=fun u z=>RO;obtain⟨ls,hls,rfl⟩:=Option.map_eq_some_iff.1 h;unfold Program.keyLits at hls;rw[Tryz.underlying73]at hls
   simp[MU,IW,Value.cells,List.range,List.range.loop]at hls
   cases hx:Tryz.prog.keyLits (M+1) 3 [x] with
   | none=>simp[hx]at hls
   | some lx =>
    cases hy:Tryz.prog.keyLits (M+1) 3 [y] with
    | none=>simp[hx,hy]at hls
    | some ly =>
     obtain⟨a,rfl,wa,rfl⟩:=RO hx;obtain⟨b,rfl,wb,rfl⟩:=RO hy;refine⟨a,b,rfl,wa,wb,?_⟩;have:=xE wa wb;rw[h0]at this
     exact Option.some.inj this
  | _=>simp[Value.formed,Tryz.underlying73]at hf
 ·cases h
theorem afM {v:Value} {y:DataW Unit × List MemPlace} (h:yP v=some y):∃ c:Int × Int,v = .agg #[.int .i64 c.1,.int .i64 c.2]:=by
 unfold yP at h;split at h
 ·split at h
  ·rename_i cs x' y' hcs
   exact⟨(x',y'),congrArg Value.agg (Array.ext' hcs)⟩
  ·cases h
 ·cases h
def rU (w:World) (B:Nat) (L:List (Nat × Nat)):Prop:=∃ D n,n<=L.length/\w.ownsMap Tryz.prog 73 J8 B n D/\∀ a b:Nat,a<=100000->b<=100000->D.atKey (ek a b) (.lit (.bool false)) = .lit (.bool (decide ((a,b)∈L)))
theorem rU.block {w w':World} {B:Nat} {L:List (Nat × Nat)} (h:rU w B L) (hb:w'.heap[B]?=w.heap[B]?):rU w' B L:=by
 obtain⟨D,n,hn,⟨es,clock,h1,h2,h3,h4⟩,h⟩:=h;exact⟨D,n,hn,⟨es,clock,hb.trans h1,h2,h3,h4⟩,h⟩
theorem rU.lt {w:World} {B:Nat} {L:List (Nat × Nat)} (h:rU w B L):B<w.heap.size:=by
 obtain⟨D,n,hn,ho,h⟩:=h;exact ho.lt
theorem rU.made (w:World):rU (w.alloc (.map #[] 0)) w.heap.size []:=⟨_,0,Nat.le_refl _,World.ownsMap_made _ _ _ _,fun a b ha hb=>rfl⟩
theorem qM {a:Nat} (h:a<=100000):W6 (a:Int):=uH qo qo
theorem rU.look {w:World} {B:Nat} {L:List (Nat × Nat)} (h:rU w B L) {a b:Nat} (ha:a<=100000) (hb:b<=100000) :
  (Instr.lookup 83 (.map (some B)) (.agg #[.int .i64 (a:Int),.int .i64 (b:Int)]) false).run Tryz.prog w = .ok (.bool (decide ((a,b)∈L))) w:=by
 obtain⟨D,n,hn,ho,h⟩:=h;obtain⟨v,ps,hrun,hv⟩:=ho.lookup xk Tryz.underlying83 (XV w) (Mp false) (xE (qM ha) (qM hb));rw[h a b ha hb]at hv
 rw[XU hv]at hrun
 exact hrun
theorem rU.more {w:World} {B:Nat} {L:List (Nat × Nat)} (h:rU w B L) (hm:L.length<maxLen) {a b:Nat} (ha:a<=100000) (hb:b<=100000) :
  ∃ w',(Instr.mapUpdate 83 (.map (some B)) (.agg #[.int .i64 (a:Int),.int .i64 (b:Int)]) (.bool true)).run Tryz.prog w = .ok () w'/\rU w' B (L++[(a,b)])/\w.grownBy w' (some B):=by
 obtain⟨D,n,hn,ho,h⟩:=h;obtain⟨w',hrun,ho',hg⟩:=ho.update xk Tryz.underlying83 qo (xE (qM ha) (qM hb)) (Mp true);refine⟨w',hrun,⟨_,n+1,by simp;omega,ho',fun c d hc hd=>?_⟩,hg⟩;by_cases he:(c,d)=(a,b)
 ·injection he with h1 h2
  subst h1 h2;rw[atKey_put_same ho.isMap (NA (qM ha) (qM hb))];simp
 ·have hne:ek c d≠ek a b:=fun h=>he (by obtain⟨h1,h2⟩:=Nz (qM hc) (qM hd) (qM ha) (qM hb) h;exact Prod.ext (by show c=a;omega) (by show d=b;omega))
  rw[atKey_put_other hne,h c d hc hd];simp[he]
structure ER (g q B r:Nat) (w:World) (n0:Nat) (D:DataW Unit) (m:Nat) (p:Nat->Nat->Bool) (left:Lit->Bool) (cnt:Nat) (x:Option (Nat × Nat)) (L:List (Nat × Nat)) (n:Nat) (A:Option Addr) (c:Nat) (W:World):Prop where
 below:Below g w W
 rg:W.ranges Tryz.prog 73 yP B r m D left cnt
 qm:rU W q L
 own:W.ownsRow (r+1) 45 2 (.slice A n c) n (fQ (eZ L))
 len:L.length=n
 nd:L.Nodup
 mem:∀ y∈L,y.1<y.2/\y.2<n0/\p y.1 y.2=true
 all:∀ a b:Nat,a<n0->b<n0->Maps.has D (ek a b)=true->left (ek a b)=false->(min a b,max a b)∈L\/x=some (min a b,max a b)
 ord:g<=B/\B<q/\q<r
 le:n0<=400
 sz:n+cnt+(if x.isSome=true then 1 else 0)<=2700
theorem ER.gr {g q B r:Nat} {w:World} {n0:Nat} {D:DataW Unit} {m:Nat} {p:Nat->Nat->Bool} {left:Lit->Bool} {cnt:Nat} {x:Option (Nat × Nat)} {L:List (Nat × Nat)} {n:Nat} {A:Option Addr} {c:Nat} {W W':World} (h:ER g q B r w n0 D m p left cnt x L n A c W) (hg:W.grownBy W' none):ER g q B r w n0 D m p left cnt x L n A c W' :=
 ⟨h.below.grown hg (Nat.le_trans (by have:=h.ord;omega) (Nat.le_of_lt h.qm.lt)) (fun k e=>by cases e),h.rg.kept hg (by simp) (by simp),h.qm.block (hg.block q h.qm.lt (by simp)),aae h.own hg,h.len,h.nd,h.mem,h.all,h.ord,h.le,h.sz⟩
theorem RP {W W':World} (h:Below W.heap.size W W'):W.grownBy W' none:=⟨h.os,h.tape,h.output,h.size,fun k hk _=>h.block k hk⟩
theorem ER.next {g q B r:Nat} {w:World} {n0:Nat} {D:DataW Unit} {m:Nat} {p:Nat->Nat->Bool} {left:Lit->Bool} {cnt:Nat} {L:List (Nat × Nat)} {n:Nat} {A:Option Addr} {c:Nat} {W W':World} (h:ER g q B r w n0 D m p left cnt none L n A c W) {a b cnt':Nat} (ha:a<n0) (hb:b<n0) (hc:cnt'<cnt)
  (hr:W'.ranges Tryz.prog 73 yP B r m D (fun z=>left z&&!z.sameKey (ek a b)) cnt') (hg:W.grownBy W' (some r)):ER g q B r w n0 D m p (fun z=>left z&&!z.sameKey (ek a b)) cnt' (some (min a b,max a b)) L n A c W':=by
 have ho:=h.ord;refine⟨h.below.grown hg (Nat.le_trans qo (Nat.le_of_lt h.qm.lt)) (fun k e=>by injection e with e;omega),hr,h.qm.block (hg.block q h.qm.lt (fun e=>by injection e with e;omega)),Nx h.own (fun k hk1 hk2=>hg.block k hk2 (fun e=>by injection e with e;omega)),h.len,h.nd,h.mem,fun a' b' ha' hb' hh hl=>?_,ho,h.le,by have hs:=h.sz;simp at hs ⊢;omega⟩;cases hk:left (ek a' b') with
 | false =>
  rcases h.all a' b' ha' hb' hh hk with h1|h1
  ·exact .inl h1
  ·cases h1
 | true =>
  simp only[hk,Bool.true_and,Bool.not_eq_false']at hl;have e:=WideAt.sameKey_eq hl;have hn0:=h.le;obtain⟨e1,e2⟩:=Nz (qM qo) (qM qo) (qM qo) (qM qo) e;right;rw[show a'=a by omega,show b'=b by omega]
theorem ER.skip {g q B r:Nat} {w:World} {n0:Nat} {D:DataW Unit} {m:Nat} {p:Nat->Nat->Bool} {left:Lit->Bool} {cnt:Nat} {y:Nat × Nat} {L:List (Nat × Nat)} {n:Nat} {A:Option Addr} {c:Nat} {W:World} (h:ER g q B r w n0 D m p left cnt (some y) L n A c W) (hy:y∈L):ER g q B r w n0 D m p left cnt none L n A c W :=
 ⟨h.below,h.rg,h.qm,h.own,h.len,h.nd,h.mem,fun a b ha hb hh hl=>by
  rcases h.all a b ha hb hh hl with h1|h1
  ·exact .inl h1
  ·injection h1 with h1
   exact .inl (h1 ▸ hy),h.ord,h.le,by have hs:=h.sz;simp at hs ⊢;omega⟩
theorem ER.add {g q B r:Nat} {w:World} {n0:Nat} {D:DataW Unit} {m:Nat} {p:Nat->Nat->Bool} {left:Lit->Bool} {cnt:Nat} {y:Nat × Nat} {L:List (Nat × Nat)} {n:Nat} {A A':Option Addr} {c c':Nat} {W W1 W2 W3:World} (h:ER g q B r w n0 D m p left cnt (some y) L n A c W) (hy:¬ y∈L) (hp:y.1<y.2/\y.2<n0/\p y.1 y.2=true)
  (hq:rU W1 q (L++[y])) (hg1:W.grownBy W1 (some q)) (hg2:W1.grownBy W2 none) (hO:W3.ownsRow (r+1) 45 2 (.slice A' (n+1) c') (n+1) (fQ (eZ L)++fQ (eZ [y]))) (hg3:W2.grownBy W3 (Value.slice A n c).ownBlock) :
  ER g q B r w n0 D m p left cnt none (L++[y]) (n+1) A' c' W3:=by
 have ho:=h.ord;have hb:∀ k,(Value.slice A n c).ownBlock=some k->r+1<=k:=Ba h.own;have s1:=hg1.size;have s2:=hg2.size;have iz:=h.qm.lt
 refine⟨((h.below.grown hg1 (Nat.le_trans qo (Nat.le_of_lt iz)) (fun k e=>by injection e with e;omega)).grown hg2 qo (fun k e=>by cases e)).grown hg3 qo (fun k e=>by have:=hb k e;omega),
  ((h.rg.kept hg1 (fun e=>by injection e with e;omega) (fun e=>by injection e with e;omega)).kept hg2 (by simp) (by simp)).kept hg3 (fun e=>by have:=hb _ e.symm;omega) (fun e=>by have:=hb _ e.symm;omega),
  (hq.block (hg2.block q qo (by simp))).block (hg3.block q qo (fun e=>by have:=hb _ e.symm;omega)),
  by rw[Tm];unfold fQ at *;rw[List.map_append];exact hO,by rw[List.length_append,h.len];rfl,?_,?_,?_,ho,h.le,by have hs:=h.sz;simp at hs ⊢;omega⟩
 ·exact List.nodup_append.2 ⟨h.nd,by simp,fun a ha b hb' e=>hy (by simp at hb';subst hb';subst e;exact ha)⟩
 ·intro z hz
  rcases List.mem_append.1 hz with h1|h1
  ·exact h.mem z h1
  ·simp at h1
   subst h1;exact hp
 ·intro a b ha hb' hh hl
  left;rcases h.all a b ha hb' hh hl with h1|h1
  ·exact List.mem_append_left _ h1
  ·injection h1 with h1
   rw[<- h1];simp
end Go.Proofs.YtcmepkhjggpmeaaGreat
namespace Go.Proofs.YtcmepkhjggpmeaaGreat
open Go.RowKit aP Go.Maps Go.Proofs.aF.R Go.Proofs.aF.Z Go.Proofs.aD.aY
theorem SG (o:Option Nat):o.isSome=decide (0<=fT o):=by
 cases o with
 | none=>rfl
 | some j=>exact(decide_eq_true (show(0:Int)<=((j / 3:Nat):Int) by omega)).symm
theorem ahX (zs:List Int) (n1 a b:Nat):gV zs n1 a b=gV zs n1 b a:=Bool.or_comm _ _
theorem amz (zs:List Int) (n1 a b:Nat):gV zs n1 (min a b) (max a b)=gV zs n1 a b:=by
 rcases Nat.le_total a b with h|h
 ·rw[Nat.min_eq_left h,Nat.max_eq_right h]
 ·rw[Nat.min_eq_right h,Nat.max_eq_left h,ahX]
theorem aha {n0 n1:Nat} {zs:List Int} {ss:SS} {bn:Nat->Nat->Nat->Int} (hM:n9 n0 zs n1 ss bn) (hne:∀ i j k,0<bn i j k->i≠j/\j≠k/\k≠i) {a b:Int} (h:(bK zs a b (3*n1)).isSome=true):∃ x y:Nat,a=x/\b=y/\x<n0/\y<n0/\x≠y:=by
 obtain⟨j,hj⟩:=Option.isSome_iff_exists.1 h;obtain⟨h1,⟨h2,h3⟩,-⟩:=FO hj;have r1:=hM.inr h1;have r2:=hM.inr (j:=3*(j / 3)+nx (j%3)) (by unfold nx;split <;> omega);rw[h2]at r1
 rw[h3]at r2
 refine⟨a.toNat,b.toNat,by omega,by omega,by omega,by omega,?_⟩;have hc:=hM.c (j / 3) qo;unfold uF at hc;rw[Bool.and_eq_true]at hc
 have hn:=hne _ _ _ (of_decide_eq_true hc.2);have hj3:j%3=0\/j%3=1\/j%3=2:=by omega
 rcases hj3 with e|e|e
 ·rw[<- h2,<- h3,e,show nx 0=1 from rfl]
  rw[show zs.getD j 0=zs.getD (3*(j / 3)) 0 by congr 1;omega];exact hn.1
 ·rw[<- h2,<- h3,e,show nx 1=2 from rfl]
  rw[show zs.getD j 0=zs.getD (3*(j / 3)+1) 0 by congr 1;omega];exact hn.2.1
 ·rw[<- h2,<- h3,e,show nx 2=0 from rfl]
  rw[show zs.getD j 0=zs.getD (3*(j / 3)+2) 0 by congr 1;omega];exact hn.2.2
def amA (w:World) (L:List (Nat × Nat)) (e:Ending) (w':World):Prop:=∃ A n c,e = .returned (.tuple #[.slice A n c,.int .i64 0])/\w'.ownsRow w.heap.size 45 2 (.slice A n c) n (fQ (eZ L))/\L.length=n/\Below w.heap.size w w'
theorem alI (A0 A1 A2:Option Addr) (c0 n1 c1 c2:Nat) (ps:PS) (zs:List Int) (ss:SS) (w:World) (hA:ow w A0 A1 A2 c0 c2 ps zs n1 ss) (K:Nat) (hK:nB.f K ps=some 0) (bn:Nat->Nat->Nat->Int) (hO:CP K ps bn) (hM:n9 ps.length zs n1 ss bn) (hne:∀ i j k,0<bn i j k->i≠j/\j≠k/\k≠i) :
  Calls Tryz.prog 10 #[.agg #[.slice A0 ps.length c0,.slice A1 n1 c1,.slice A2 ss.length c2]] w fun e w'=>amA w (nU (gV zs n1) ps.length ps.length) e w':=by
 have bu:=qh (MB.new w A0 A1 A2 ps.length c0 n1 c1 ss.length c2);have s9:=qh (Mq A0 A1 A2 c0 n1 c1 c2 ps zs ss _ (hA.below bu.out.below rfl) K hK bn hO hM);obtain⟨n0,hn0⟩:∃ n,ps.length=n:=⟨_,rfl⟩
 rw[hn0]at s9 bu ⊢
 have HM:=qh hM;have wD:=qh hne;rw[hn0]at HM
 clear hA hK hO hM hn0 hne;obtain⟨g,hg⟩:∃ g,w.heap.size=g:=⟨_,rfl⟩
 have HG:=qh hg;have hmm:=@run_makeMap Tryz.prog;rw[hg]at bu
 go_enter Tryz.func10,Tryz.ntmps10;go_wp2_with (refine s9.out.mono ?_;rintro e w2 ⟨kb,B,rfl,hkb,hB,hmp,e0,e1,e2,e3,hb⟩;refine Stop.out ?_)
 refine⟨?_⟩;have bV:=qh (bu.out.step hb);have Qa:=qh hmp;have hz:(w.alloc (.cells #[.slice A0 n0 c0,.slice A1 n1 c1,.slice A2 ss.length c2] 26)).heap.size=g+1:=by simp[go_sem,hg]
 have AG:=qh (show g<=B by omega);clear hz;clear hb hmp hB s9 bu e0 e1 e2 hkb;have W_:=qh e3;go_upto_region 6 with fail
 have KZ:=(Below.refl w2.heap.size w2).alloc (Nat.le_refl _) (.map #[] 0);have bX:=qh (bV.out.step KZ);have Xa:=qh (Qa.out.below KZ Qa.out.lt);have Iy:=qh (rU.made w2);have Ff:=qh Qa.out.lt;have e3':=(KZ.cell (ql W_.out)).trans W_.out;clear hmm e3 W_ bV Qa KZ;generalize (w2.alloc (.map #[] 0))=w3 at bX Xa Iy e3' ⊢;generalize w2.heap.size=q at Iy Ff ⊢;obtain⟨D,m,hm,ho,hD⟩:=Xa.out;have HD:=qh hD;have HMM:=qh hm;clear hD hm Xa;go_wp2_with (first|(at_range;refine wpList_range_own _ rfl _ 79 rfl 73 77 xk Tryz.underlying79 _ B m D rfl ho ?_;intro w4 hrg hg4 hs4)|go_in)
 go_frame
 have HI:=qh (show ER g q B w3.heap.size w n0 D m (gV zs n1) (Maps.has D) (Maps.size D) none [] 0 none 0 w4 from
  ⟨bX.out.below.grown hg4 (Nat.le_of_lt (ql bX.out.b0)) (fun k e=>by cases e),hrg,Iy.out.block (hg4.block q Iy.out.lt (by simp)),World.ownsRow_nil _ _ _ _,rfl,List.nodup_nil,(fun y hy=>by cases hy),fun a b ha hb h1 h2=>(by rw[h1]at h2;cases h2),⟨AG.out,Ff.out,Iy.out.lt⟩,HM.out.l0,by have h1:=ho.size_le;have h2:=HMM.out;have h3:=HM.out.l1;simp;omega⟩)
 generalize w3.heap.size=r at HI ⊢;clear hrg hg4 hs4 ho bX Iy Ff e3' AG HMM hg;go_loopw [7] (fun v wr=>∃ (left:Lit->Bool) (cnt:Nat) (L:List (Nat × Nat)) (n:Nat) (A:Option Addr) (c:Nat),v = .slice A n c/\Hid (ER g q B r w n0 D m (gV zs n1) left cnt none L n A c wr)) (fun _ wr=>wr.rangeLeft B r)
 case atStart=>exact⟨_,_,[],0,none,0,rfl,HI⟩
 case round =>
  obtain⟨left,cnt,L,n,A,c,rfl,hI⟩:=hrel;clear HI;have hrg:=hI.out.rg;go_wp2_with (first|(at_next;refine wpList_next_ranges _ rfl _ rfl 73 xk yP (fun x:Int × Int => .agg #[.int .i64 x.1,.int .i64 x.2]) (fun x:Int × Int => .agg #[.int .i64 x.1,.int .i64 x.2]) (fun key kl h=>by obtain⟨a,b,rfl,_⟩:=aax h;exact⟨(a,b),rfl⟩) (fun v y h=>afM h) B r m D left cnt rfl hrg ?_ ?_)|go_in)
  ·intro hc0 hl0
   have AI:=qh hl0;have HS:=qh (amy A n c (r+1) L wr hI.out.own hI.out.len (by have:=hI.out.sz;simp at this;omega));clear hc0 hl0 hrg;go_wp2_with (refine HS.out.mono ?_;rintro e w5 ⟨rfl,hown,hgr⟩;refine Stop.out ?_)
   refine⟨?_⟩;go_wp2
   refine bodyPost_ret (by simp[results,Tryz.results10,go_sem];try rfl) rfl ?_;have hb:=Ba hI.out.own;have hbl:Below g w w5:=hI.out.below.grown hgr (Nat.le_trans (by have:=hI.out.ord;omega) (Nat.le_of_lt hI.out.qm.lt)) (fun k e=>by have:=hb k e;have:=hI.out.ord;omega);have hmem:=fun x=>(List.mergeSort_perm L wY).mem_iff (a:=x);have he:L.mergeSort wY=nU (gV zs n1) n0 n0:=alD (ahW L) ((List.mergeSort_perm L wY).nodup_iff.2 hI.out.nd) fun x=>by
    rw[hmem x];constructor
    ·exact hI.out.mem x
    ·rintro⟨h1,h2,h3⟩
     have hl:=hI.out.le;unfold gV at h3;rw[Bool.or_eq_true,<- SG,<- SG]at h3
     have hx:∀ a b:Nat,a<n0->b<n0->(bK zs a b (3*n1)).isSome=true->(min a b,max a b)∈L:=fun a b ha hb hs=>by
      rcases hI.out.all a b ha hb ((HD.out a b (qM qo) (qM qo)).1.trans hs) (AI.out _) with h4|h4
      ·exact h4
      ·cases h4
     rcases h3 with h3|h3
     ·have:=hx x.1 x.2 qo h2 h3
      rwa [Nat.min_eq_left qo,Nat.max_eq_right qo]at this
     ·have:=hx x.2 x.1 h2 qo h3
      rwa [Nat.min_eq_right qo,Nat.max_eq_left qo]at this
   rw[<- he];exact⟨A,n,c,rfl,by rw[HG.out];exact xe hown (by have:=hI.out.ord;omega),by rw[List.length_mergeSort];exact hI.out.len,by rw[HG.out];exact hbl⟩
  ·intro a b s1 s2 kl yd yp w5 VG hkey hlk hv hat ae_ hlt jN hs5 hen
   obtain⟨a',b',e,wa,wb,rfl⟩:=aax hkey;simp at e;obtain⟨rfl,rfl⟩:=e;have wW:(bK zs a b (3*n1)).isSome=true:=(HD.out a b wa wb).1.symm.trans (has_true_of_atKey hat);obtain⟨xa,xb,rfl,rfl,h1,h2,h3⟩:=aha HM.out wD.out wW;have EF:gV zs n1 xa xb=true:=by unfold gV;rw[<- SG,wW];rfl
   obtain⟨lo,hlo⟩:∃ x,min xa xb=x:=⟨_,rfl⟩
   obtain⟨hi,hhi⟩:∃ x,max xa xb=x:=⟨_,rfl⟩
   have wX:=hI.out.next h1 h2 hlt ae_ jN
   rw[hlo,hhi]at wX
   have HP:=qh (show lo<hi/\hi<n0/\gV zs n1 lo hi=true from ⟨by omega,by omega,by rw[<- hlo,<- hhi,amz];exact EF⟩);have HCT:=qh (show VG<wr.rangeLeft B r by rw[hrg.left_eq];exact hlt);have Cw:=qh (fun W=>Jc (xa:Int) (xb:Int) W);rw[show min (xa:Int) (xb:Int)=(lo:Int) by omega,show max (xa:Int) (xb:Int)=(hi:Int) by omega]at Cw
   have wX:=qh wX;clear hkey hlk hv hat ae_ hlt jN hs5 wa wb wW h1 h2 h3 EF hlo hhi hrg hI;go_wp2_with fail
   refine(Cw.out _).mono ?_;rintro e w6 ⟨rfl,hb⟩;have Xb:=qh ((wX.out.gr (RP ((Below.refl _ _).alloc (Nat.le_refl _) (.cells #[.int .i64 (xa:Int),.int .i64 (xb:Int)] 73)))).gr (RP hb));clear hb Cw wX hen;go_upto_region 10 with fail
   have vA:=qh (Xb.out.gr (RP ((Below.refl _ _).alloc (Nat.le_refl _) (.cells #[.int .i64 (lo:Int),.int .i64 (hi:Int)] 73))));have d0:(w6.alloc (.cells #[.int .i64 (lo:Int),.int .i64 (hi:Int)] 73)).cell? ⟨w6.heap.size,0,none⟩=some (.int .i64 (lo:Int)):=by simp[go_sem]
   have d1:(w6.alloc (.cells #[.int .i64 (lo:Int),.int .i64 (hi:Int)] 73)).cell? ⟨w6.heap.size,1,none⟩=some (.int .i64 (hi:Int)):=by simp[go_sem]
   have hpb:q<w6.heap.size:=Xb.out.qm.lt;clear Xb;generalize (w6.alloc (.cells #[.int .i64 (lo:Int),.int .i64 (hi:Int)] 73))=w7 at vA d0 d1 ⊢;generalize w6.heap.size=pb at d0 d1 hpb ⊢;have hlm:lo<=100000/\hi<=100000:=by have:=vA.out.le;have:=HP.out;omega
   have hlk:=vA.out.qm.look hlm.1 hlm.2;by_cases hin:(lo,hi)∈L
   ·rw[decide_eq_true hin]at hlk
    have vv:=qh hlk;have HI8:=qh (vA.out.skip hin);clear hlk hin vA hlm hpb;go_wp2_with (first|(at_lookup;refine yA _ rfl _ _ _ _ rfl _ _ _ rfl rfl vv.out ?_)|go_in)
    exact⟨⟨_,VG,L,n,A,c,rfl,HI8⟩,by rw[HI8.out.rg.left_eq];exact HCT.out⟩
   ·rw[decide_eq_false hin]at hlk
    have vv:=qh hlk;have hsz:=vA.out.sz;simp at hsz;obtain⟨w8,hrun,rZ,L5⟩:=vA.out.qm.more (by rw[vA.out.len];simp only[maxLen];omega) hlm.1 hlm.2;have uR:=qh hrun;have hpq:w8.heap[pb]?=w7.heap[pb]?:=L5.block pb (ql d0) (fun e=>by injection e with e;omega);have f0:=(World.cell?_of_block (a:=⟨pb,0,none⟩) hpq).trans d0;have f1:=(World.cell?_of_block (a:=⟨pb,1,none⟩) hpq).trans d1;have ab6:=Nx vA.out.own (w':=w8) (fun k hk1 hk2=>L5.block k hk2 (fun e=>by injection e with e;have:=vA.out.ord;omega));have gT:w8.grownBy (w8.alloc (.cells #[.int .i64 (lo:Int),.int .i64 (hi:Int)] 45)) none:=World.grownBy_alloc w8 _ none;have zh:=qh (aae ab6 gT);have HN:=qh hin;have W9:=qa (jE w8 (.cells #[.int .i64 (lo:Int),.int .i64 (hi:Int)] 45));have hbz:r+1<=(w8.alloc (.cells #[.int .i64 (lo:Int),.int .i64 (hi:Int)] 45)).heap.size:=Nat.le_trans (Nat.le_trans vA.out.rg.lt L5.size) gT.size;have V5:=qh rZ;have HG8:=qh L5;have EU:=qh gT;have dP:=qh (show n<=2700 by omega);clear hlk hin hrun rZ L5 hpq ab6 gT hlm hsz hpb;go_wp2_with (first|(at_lookup;refine yA _ rfl _ _ _ _ rfl _ _ _ rfl rfl vv.out ?_)|(at_mapUpdate;refine JE _ rfl _ _ _ _ rfl _ _ _ w8 rfl rfl rfl uR.out ?_;clear d0 d1)|(at_builtin;refine aat rfl (.tmp 36) (.tmp 38) 33 45 rfl (.agg #[.int .i64 0,.int .i64 0]) 2 16 Tryz.underlying33 qk rfl qd (.slice A n c) n (fQ (eZ L)) rfl ⟨w8.heap.size,0,none⟩ 1 1 rfl (fQ (eZ [(lo,hi)])) zh.out hbz rfl (ZU W9.out) (Qo _) (by have:=dP.out;omega) (by have:=dP.out;simp only[maxLen];omega) ?_;intro B' d' w9 O0 G0)|go_in)
    have HI9:=qh (vA.out.add HN.out HP.out V5.out HG8.out EU.out O0.out G0.out);exact⟨⟨_,VG,L++[(lo,hi)],n+1,B',d',rfl,HI9⟩,by rw[HI9.out.rg.left_eq];exact HCT.out⟩
end Go.Proofs.YtcmepkhjggpmeaaGreat
