import Derived.Test.YtcmepkhjggpmeaaGreatZuG47
import Derived.Test.YtcmepkhjggpmeaaGreatZuG44
import Derived.Sort.Grow
set_option linter.all false
set_option maxRecDepth 100000
set_option maxHeartbeats 8000000
namespace Go.Proofs.YtcmepkhjggpmeaaGreat
open Go.RowKit aP Go.Proofs.aF.R Go.Proofs.aF.Z Go.Proofs.aD.aY
theorem NN {p:PT} (h:decide ((sU (pX p)=0/\(pX p).2.1.size<=40/\(pX p).2.2.size<=40)/\sU (pY p)=0/\(pY p).2.1.size<=40/\(pY p).2.2.size<=40)=true):ko p:=by
 obtain⟨⟨h1,h2,h3⟩,h4,h5,h6⟩:=of_decide_eq_true h;exact⟨⟨Bf.1 h1,h2,h3⟩,⟨Bf.1 h4,h5,h6⟩⟩
theorem Iv:z_ ps2:=by
 intro j hj;have hl:ps2.length=4:=rfl;have:j=0\/j=1\/j=2\/j=3:=by omega
 rcases this with rfl|rfl|rfl|rfl
 ·exact NN (by decide +kernel)
 ·exact NN (by decide +kernel)
 ·exact NN (by decide +kernel)
 ·exact NN (by decide +kernel)
theorem VD:n9 ps2.length zs2 2 [] (mE ps2):=by
 refine⟨by decide,by decide,by decide,fun t ht=>?_,fun j hj=>?_,fun i hi=>absurd hi (Nat.not_lt_zero _)⟩
 ·have:t=0\/t=1:=by omega
  rcases this with rfl|rfl
  ·decide +kernel
  ·decide +kernel
 ·have:j=0\/j=1\/j=2\/j=3\/j=4\/j=5:=by omega
  rcases this with rfl|rfl|rfl|rfl|rfl|rfl <;> decide +kernel
theorem arR:tK ps2 zs2 2 [] (mE ps2) 0 2=(0,ps2,[3,0,1,3,1,2],2,[]):=by
 have h1:sq 2 0 2=true:=by decide
 have h2:uI zs2 2 [] (mE ps2) 2 0 1=some 3:=by decide +kernel
 have h3:wk zs2 0 3 2 0 1 3=[3,0,1,3,1,2]:=by decide +kernel
 unfold tK;rw[if_pos h1];show(match uI zs2 2 [] (mE ps2) 2 0 1 with
  | none=>uV 7
  | some j=>(0,ps2,wk zs2 0 j 2 0 1 (zs2.getD (3*(j / 3)+px (j%3)) 0),2,[]))=_
 rw[h2];show((0:Int),ps2,wk zs2 0 3 2 0 1 3,2,([]:SS))=_;rw[h3]
theorem arS:tK ps2 zs2 2 [] (mE ps2) 0 0=uV 7:=by
 have h1:sq 2 0 0=true:=by decide
 have h2:uI zs2 2 [] (mE ps2) 0 1 2=none:=by decide +kernel
 unfold tK;rw[if_pos h1];show(match uI zs2 2 [] (mE ps2) 0 1 2 with
  | none=>uV 7
  | some j=>(0,ps2,wk zs2 0 j 0 1 2 (zs2.getD (3*(j / 3)+px (j%3)) 0),2,[]))=_
 rw[h2]
theorem arT:uW zs2 2 0 2=(1,0,0):=by decide +kernel
theorem alB {w:World} {b g1 k1:Nat} {x0 x1 x2 x3 x4 x5:Int} (h:w.ownsRow b 69 3 (.slice (some ⟨g1,0,none⟩) 2 k1) 2 (fQ [x0,x1,x2,x3,x4,x5])) :
  w.cell? ⟨g1,0,none⟩=some (.int .i64 x0)/\w.cell? ⟨g1,1,none⟩=some (.int .i64 x1)/\w.cell? ⟨g1,2,none⟩=some (.int .i64 x2)/\w.cell? ⟨g1,3,none⟩=some (.int .i64 x3)/\w.cell? ⟨g1,4,none⟩=some (.int .i64 x4)/\w.cell? ⟨g1,5,none⟩=some (.int .i64 x5) :=
 ⟨h.cells rfl 0 _ rfl,h.cells rfl 1 _ rfl,h.cells rfl 2 _ rfl,h.cells rfl 3 _ rfl,h.cells rfl 4 _ rfl,h.cells rfl 5 _ rfl⟩
attribute [local go_sem high] eqT
theorem ams (w:World):Calls Tryz.prog 8 #[] w fun e w'=>e = .returned (.bool true)/\Below w.heap.size w w':=by
 have H2:=qh (apM w);have ni:=qh (Below.refl w.heap.size w);go_enter Tryz.func8,Tryz.ntmps8;go_wp2_with (refine H2.out.mono ?_;rintro e w1 ⟨v0,v1,rfl,n_,hb⟩;refine Stop.out ?_)
 refine⟨?_⟩;obtain⟨A0,c0,A1,c1,A2,c2,rfl,rfl,hv2,hc1,hA⟩:=n_.args;injection hv2 with e1 e2 e3
 subst e1 e3;clear e2;have gT:=(Below.refl w1.heap.size w1).alloc (Nat.le_refl _) (.cells #[.slice A0 ps2.length c0,.slice A1 2 c1,.slice none 0 0] 26);have bV:=qh (hb.trans (gT.mono hb.size));have P7:=qh (hA.below gT rfl);have eE:=qh (show aO ((w1.alloc (.cells #[.slice A0 ps2.length c0,.slice A1 2 c1,.slice none 0 0] 26)).heap[w1.heap.size]?=some (.cells #[.slice A0 ps2.length c0,.slice A1 2 c1,.slice none 0 0] 26 (0,0))) from ⟨jE _ _⟩);clear gT hb n_ hA H2;go_upto_region 2 with fail
 generalize (w1.alloc (.cells #[.slice A0 ps2.length c0,.slice A1 2 c1,.slice none 0 0] 26))=w2 at bV P7 eE ⊢;generalize w1.heap.size=g at eE ⊢;have HF:=qh (fun W (hA:ow W A0 A1 none c0 0 ps2 zs2 2 [])=>Yo A0 A1 none c0 2 c1 0 ps2 zs2 [] W hA 40 (Mr Iv qd 40 qd) (mE ps2) (Iu Iv 40 qd) VD 0 2);have WR:=qh (fun W (hA:ow W A0 A1 none c0 0 ps2 zs2 2 [])=>aan A0 A1 none c0 2 c1 0 ps2 zs2 [] W hA rfl 40 (Mr Iv qd 40 qd) (mE ps2) (Iu Iv 40 qd) VD (NM ps2) 0 2);have WS:=qh (fun W (hA:ow W A0 A1 none c0 0 ps2 zs2 2 [])=>aan A0 A1 none c0 2 c1 0 ps2 zs2 [] W hA rfl 40 (Mr Iv qd 40 qd) (mE ps2) (Iu Iv 40 qd) VD (NM ps2) 0 0);rw[arT]at HF
 rw[arR]at WR
 rw[arS]at WS
 obtain⟨a0,a1,a2,a3,a4,a5⟩:=z3 eE.out;go_wp2_with (refine(HF.out _ P7.out).mono ?_;rintro e w3 ⟨rfl,hb⟩;refine Stop.out ?_)
 refine⟨?_⟩;have WT:=qh (P7.out.below hb rfl);have bX:=qh (bV.out.trans (hb.mono bV.out.size));have lZ:=qh (show aO (w3.heap[g]?=some (.cells #[.slice A0 ps2.length c0,.slice A1 2 c1,.slice none 0 0] 26 (0,0))) from ⟨gP eE.out.out hb⟩);clear hb P7 bV eE HF a0 a1 a2 a3 a4 a5;obtain⟨a0,a1,a2,a3,a4,a5⟩:=z3 lZ.out;go_wp2_with (refine(WR.out _ WT.out).mono ?_;rintro e w4 ⟨u0,u1,u2,rfl,n_,hb⟩;refine Stop.out ?_)
 refine⟨?_⟩;replace n_:OM w4 w3.heap.size u0 u1 u2 ps2 [3,0,1,3,1,2] 2 []:=n_;obtain⟨g1,k1,rfl⟩:=n_.blk qd;obtain⟨D0,d0,D1,d1,D2,d2,rfl,-,rfl,-,-⟩:=n_.args;have gT:=(Below.refl w4.heap.size w4).alloc (Nat.le_refl _) (.cells #[.slice D0 ps2.length d0,.slice (some ⟨g1,0,none⟩) 2 k1,.slice D2 ([]:SS).length d2] 26);have cL:=hb.trans (gT.mono hb.size);have Iw:=qh (WT.out.below cL rfl);have kE:=qh (bX.out.trans (cL.mono bX.out.size));have qL:=qh (show aO ((w4.alloc (.cells #[.slice D0 ps2.length d0,.slice (some ⟨g1,0,none⟩) 2 k1,.slice D2 ([]:SS).length d2] 26)).heap[g]?=some (.cells #[.slice A0 ps2.length c0,.slice A1 2 c1,.slice none 0 0] 26 (0,0))) from ⟨gP lZ.out.out cL⟩);have pQ:=qh (show aO ((w4.alloc (.cells #[.slice D0 ps2.length d0,.slice (some ⟨g1,0,none⟩) 2 k1,.slice D2 ([]:SS).length d2] 26)).heap[w4.heap.size]?=some (.cells #[.slice D0 ps2.length d0,.slice (some ⟨g1,0,none⟩) 2 k1,.slice D2 ([]:SS).length d2] 26 (0,0))) from ⟨jE _ _⟩);have WU:=qh (td n_.t gT);clear gT hb cL n_ WT bX lZ WR a0 a1 a2 a3 a4 a5;go_upto_region 4 with fail
 generalize (w4.alloc (.cells #[.slice D0 ps2.length d0,.slice (some ⟨g1,0,none⟩) 2 k1,.slice D2 ([]:SS).length d2] 26))=w5 at Iw kE qL pQ WU ⊢;generalize w4.heap.size=h at pQ ⊢;obtain⟨a0,a1,a2,a3,a4,a5⟩:=z3 qL.out;go_wp2_with (refine(WS.out _ Iw.out).mono ?_;rintro e w6 ⟨u0,u1,u2,rfl,n_,hb⟩;refine Stop.out ?_)
 refine⟨?_⟩;replace n_:OM w6 w5.heap.size u0 u1 u2 [] [] 0 []:=n_;obtain⟨E0,f0,E1,f1,E2,f2,rfl,rfl,rfl,-,-⟩:=n_.args;have lS:=hb.trans (((Below.refl w6.heap.size w6).alloc (Nat.le_refl _) (.cells #[.slice E0 ([]:PS).length f0,.slice E1 0 f1,.slice E2 ([]:SS).length f2] 26)).mono hb.size);have wL:=qh (kE.out.trans (lS.mono kE.out.size));have HN6:=qh (show aO ((w6.alloc (.cells #[.slice E0 ([]:PS).length f0,.slice E1 0 f1,.slice E2 ([]:SS).length f2] 26)).heap[h]?=some (.cells #[.slice D0 ps2.length d0,.slice (some ⟨g1,0,none⟩) 2 k1,.slice D2 ([]:SS).length d2] 26 (0,0))) from ⟨gP pQ.out.out lS⟩);have HO6:=qh (td WU.out lS);clear hb lS n_ Iw kE qL pQ WU WS a0 a1 a2 a3 a4 a5;go_upto_region 5 with fail
 generalize (w6.alloc (.cells #[.slice E0 ([]:PS).length f0,.slice E1 0 f1,.slice E2 ([]:SS).length f2] 26))=w7 at wL HN6 HO6 ⊢;obtain⟨a0,a1,a2,a3,a4,a5⟩:=z3 HN6.out;obtain⟨x0,x1,x2,x3,x4,x5⟩:=alB HO6.out;go_wp2
 go_ret
 exact⟨rfl,wL.out⟩
theorem aat {P:Program} {w:World} {ops:Array Oper} {rest:List Oper} {o:Oper} {a:Act} {Q:Exit->Act->World->Prop} (hgd:o.guard=none) (s x:Operand) (t e:TypeId)
  (ho:o.op = .call { callee := .builtin .append,args:=#[s,x],argTypes:=#[t,t] }) (z:Value) (size bytes:Nat) (ht:P.underlying t=some (.slice e)) (hinfo:(P.info? e).map (fun i=>(i.zero,i.size,i.bytes))=some (some z,size,bytes)) (hz:z.cells.size=size) (hs0:0<size)
  (v:Value) (n:Nat) (xs:List Value) (hs:a.eval s=v) (ad:Addr) (m c:Nat) (hx:a.eval x = .slice (some ad) m c) (news:List Value) {b:Nat} (hown:w.ownsRow b e size v n xs) (hb:b<=w.heap.size) (hl:news.length=m*size) (hc:∀ j u,news[j]?=some u->w.cell? (ad.add j)=some u) (h1:∀ u∈news,u.oneCell'=true) (hm:(n+m)*bytes<=140737488355328) (hm2:n+m<=maxLen)
  (h:∀ A' c' w',Hid (w'.ownsRow b e size (.slice A' (n+m) c') (n+m) (xs++news))->Hid (w.grownBy w' v.ownBlock)->wpList P ops Q rest (a.put o.dst (.slice A' (n+m) c')) w'):wpList P ops Q (o::rest) a w:=by
 obtain⟨i0,hi,hzz⟩:=Option.map_eq_some_iff.1 hinfo;simp only[Prod.mk.injEq]at hzz;obtain⟨hz0,hz1,hz2⟩:=hzz;obtain⟨v',w',hrun,h2,hg,_,hat⟩:=run_append_own_at (P:=P) w b t o.type e i0 z size bytes ht hi hz0 hz1 hz2 hz hs0 v n xs hown ad m c news hl hc h1 hm2 hm hb;refine wpList_plain hgd fun K hK=>?_;unfold Oper.wp execOp;simp only[ho,resolve,invoke,builtin,Sem.run_bind,Sem.run_pure,Result.andThen_ok,List.map_toArray,List.map_cons,List.map_nil,hs,hx,hrun];obtain⟨A',c',rfl⟩:∃ A' c',v' = .slice A' (n+m) c':=by
  rcases h2.2 with ⟨rfl,h0⟩|⟨g,cap,cur,rfl,_⟩
  ·exact⟨_,_,by rw[h0]⟩
  ·exact⟨_,_,rfl⟩
 exact hK _ _ (h A' c' w' (qh h2) (qh hg))
theorem ZU {w:World} {b:Nat} {c:Array Value} {t:TypeId} (h:w.heap[b]?=some (.cells c t (0,0))):∀ j u,c.toList[j]?=some u->w.cell? ((⟨b,0,none⟩:Addr).add j)=some u:=by
 intro j u hj;have:(⟨b,0,none⟩:Addr).add j=⟨b,j,none⟩:=by unfold Addr.add;split <;> simp_all
 rw[this,gB h];simpa using hj
theorem XX {w:World} {ad:Addr} {n:Nat} {zs:List Int} (h:IR w (some ad) (3*n) zs) {t:Nat} (ht:t<n):w.cell? (ad.add (t*3))=some (.int .i64 (zs.getD (3*t) 0))/\w.cell? ⟨(ad.add (t*3)).block,(ad.add (t*3)).off+1,none⟩=some (.int .i64 (zs.getD (3*t+1) 0))/\w.cell? ⟨(ad.add (t*3)).block,(ad.add (t*3)).off+2,none⟩=some (.int .i64 (zs.getD (3*t+2) 0)):=by
 obtain⟨Ac,e,hc⟩:=h qo;obtain rfl:=Option.some.inj e;have y0:=hc (t*3) qo;have y1:=hc (t*3+1) qo;have y2:=hc (t*3+2) qo;rw[uL _ _ _ qd]at y1 y2
 rw[show t*3=3*t by omega]at y0 y1 y2 ⊢
 exact⟨y0,y1,y2⟩
def eZ:List (Nat × Nat)->List Int
 | []=>[]
 | x::r=>(x.1:Int)::(x.2:Int)::eZ r
theorem Tm:∀ l m:List (Nat × Nat),eZ (l++m)=eZ l++eZ m
 | [],m=>rfl
 | x::r,m=>by
  show(x.1:Int)::(x.2:Int)::eZ (r++m)=_
  rw[Tm r m]
  rfl
structure EL (g:Nat) (w:World) (A0 A1 A2:Option Addr) (n0 c0 n1 c1 n2 c2:Nat) (L:List (Nat × Nat)) (n:Nat) (A:Option Addr) (c:Nat) (W:World):Prop where
 box:MB g w A0 A1 A2 n0 c0 n1 c1 n2 c2 W
 own:W.ownsRow (g+1) 45 2 (.slice A n c) n (fQ (eZ L))
 len:L.length=n
theorem EL.step {g:Nat} {w:World} {A0 A1 A2:Option Addr} {n0 c0 n1 c1 n2 c2:Nat} {L:List (Nat × Nat)} {n:Nat} {A:Option Addr} {c:Nat} {W W':World} (h:EL g w A0 A1 A2 n0 c0 n1 c1 n2 c2 L n A c W) (hb:Below W.heap.size W W'):EL g w A0 A1 A2 n0 c0 n1 c1 n2 c2 L n A c W' :=
 ⟨h.box.step hb,td h.own hb,h.len⟩
theorem EL.app {g:Nat} {w:World} {A0 A1 A2:Option Addr} {n0 c0 n1 c1 n2 c2:Nat} {L:List (Nat × Nat)} {n:Nat} {A A':Option Addr} {c c':Nat} {W W':World} (h:EL g w A0 A1 A2 n0 c0 n1 c1 n2 c2 L n A c W) (x:Nat × Nat)
  (hO:W'.ownsRow (g+1) 45 2 (.slice A' (n+1) c') (n+1) (fQ (eZ L)++fQ (eZ [x]))) (hg:W.grownBy W' (Value.slice A n c).ownBlock):EL g w A0 A1 A2 n0 c0 n1 c1 n2 c2 (L++[x]) (n+1) A' c' W':=by
 have hl:g<W.heap.size:=ql h.box.b0;have hne:∀ k,(Value.slice A n c).ownBlock=some k->g+1<=k:=Ba h.own;have nW:W'.heap[g]?=W.heap[g]?:=hg.block g hl fun e=>by have:=hne g e.symm;omega
 refine⟨⟨h.box.below.grown hg qo (fun k e=>by have:=hne k e;omega),(World.cell?_of_block (a:=⟨g,0,none⟩) nW).trans h.box.b0,(World.cell?_of_block (a:=⟨g,1,none⟩) nW).trans h.box.b1,(World.cell?_of_block (a:=⟨g,2,none⟩) nW).trans h.box.b2⟩,?_,by rw[List.length_append,h.len];rfl⟩;rw[Tm];unfold fQ at *;rw[List.map_append];exact hO
def gV (zs:List Int) (n1 a b:Nat):Bool:=decide (0<=fT (bK zs (a:Int) (b:Int) (3*n1)))||decide (0<=fT (bK zs (b:Int) (a:Int) (3*n1)))
theorem aav (p:Nat->Nat->Bool) (a:Nat):∀ m,m<=a+1->nh p a m=[]
 | 0,_=>rfl
 | m+1,h=>by
  unfold nh
  rw[aav p a m qo,if_neg qo]
  rfl
theorem RM (p:Nat->Nat->Bool) (a:Nat):∀ m,(nh p a m).length<=m
 | 0=>Nat.le_refl _
 | m+1=>by
  unfold nh
  have:=RM p a m
  split <;> simp <;> omega
theorem RN (p:Nat->Nat->Bool) (n:Nat):∀ m,(nU p n m).length<=m*n
 | 0=>by simp[nU]
 | m+1=>by
  unfold nU
  have:=RN p n m
  have:=RM p m n
  rw[List.length_append,Nat.add_mul]
  omega
def amw (w:World) (L:List (Nat × Nat)) (e:Ending) (w':World):Prop:=∃ A n c,e = .returned (.slice A n c)/\w'.ownsRow (w.heap.size+1) 45 2 (.slice A n c) n (fQ (eZ L))/\L.length=n/\Below w.heap.size w w'
theorem alE (A0 A1 A2:Option Addr) (n0 c0 n1 c1 n2 c2:Nat) (zs:List Int) (w:World) (hr:IR w A1 (3*n1) zs) (h0:n0<=400) (h1:n1<=100000) :
  Calls Tryz.prog 13 #[.agg #[.slice A0 n0 c0,.slice A1 n1 c1,.slice A2 n2 c2]] w fun e w'=>amw w (nU (gV zs n1) n0 n0) e w':=by
 have kF:=qh (MB.new w A0 A1 A2 n0 c0 n1 c1 n2 c2);have HR:=qh hr;have HN:=qh (And.intro h0 h1);obtain⟨g,hg⟩:∃ g,w.heap.size=g:=⟨_,rfl⟩
 have HG:=qh hg;clear hr h0 h1;have q0:=kF.out.b0;go_enter Tryz.func13,Tryz.ntmps13;go_wp2
 rw[hg]at kF
 clear hg q0;go_loopw [4,3] (fun v u wr=>∃ (a:Nat) (A:Option Addr) (n c:Nat),a<=n0/\v = .int .i64 (a:Int)/\u = .slice A n c/\Hid (EL g w A0 A1 A2 n0 c0 n1 c1 n2 c2 (nU (gV zs n1) n0 a) n A c wr)) (fun v _ _=>n0-(intOf v).toNat)
 case atStart=>exact⟨0,none,0,0,Nat.zero_le _,rfl,rfl,qh ⟨kF.out,World.ownsRow_nil _ _ _ _,rfl⟩⟩
 case round =>
  obtain⟨a,A,n,c,ha,rfl,rfl,hI⟩:=hrel;have q0:=hI.out.box.b0;by_cases han:a<n0
  ·have e1:decide ((a:Int)<(n0:Int))=true:=decide_eq_true qo
   have e2:(a<n0)=True:=eq_true qo;have P_:=qh han;have Px:=qh (show EL g w A0 A1 A2 n0 c0 n1 c1 n2 c2 (nU (gV zs n1) n0 a++nh (gV zs n1) a (a+1)) n A c wr by rw[aav _ _ _ (Nat.le_refl _),List.append_nil];exact hI.out);have hw1:wrap64 ((a:Int)+1)=((a+1:Nat):Int):=kB (by have:=HN.out;omega);clear ha han hI;go_wp2
   clear q0 e1 e2;go_loopw [5,3] (fun v u wx=>∃ (b:Nat) (A:Option Addr) (n c:Nat),a+1<=b/\b<=n0/\v = .int .i64 (b:Int)/\u = .slice A n c/\Hid (EL g w A0 A1 A2 n0 c0 n1 c1 n2 c2 (nU (gV zs n1) n0 a++nh (gV zs n1) a b) n A c wx)) (fun v _ _=>n0-(intOf v).toNat)
   case atStart=>exact⟨a+1,A,n,c,Nat.le_refl _,P_.out,by first|rfl|rw[hw1],rfl,Px⟩
   case round =>
    obtain⟨b,B,n,d,hb1,hb2,rfl,rfl,hJ⟩:=hrel;clear Px hw1;have q0:=hJ.out.box.b0;have q1:=hJ.out.box.b1;have q2:=hJ.out.box.b2;by_cases iB:b<n0
    ·have e1:decide ((b:Int)<(n0:Int))=true:=decide_eq_true qo
     have e2:(b<n0)=True:=eq_true qo;have AO:=qh (And.intro hb1 iB);obtain⟨f1,t_⟩:∃ x,fT (bK zs (a:Int) (b:Int) (3*n1))=x:=⟨_,rfl⟩
     obtain⟨f2,hf2⟩:∃ x,fT (bK zs (b:Int) (a:Int) (3*n1))=x:=⟨_,rfl⟩
     have jy:=qh (show gV zs n1 a b=(decide (0<=f1)||decide (0<=f2)) by unfold gV;rw[t_,hf2]);have pH:=qh (Jz A0 A1 A2 n0 c0 n1 c1 n2 c2 zs _ (HR.out.below hJ.out.box.below HG.out.symm) a b HN.out.2);rw[t_]at pH
     have sZ:=qh hf2;clear hb1 hb2 iB t_ hf2;go_wp2_with fail
     refine pH.out.mono ?_;rintro e w2 ⟨rfl,hb⟩;have qJ:=qh (hJ.out.step hb);clear hb pH hJ q0 q1 q2;have q0:=qJ.out.box.b0;have q1:=qJ.out.box.b1;have q2:=qJ.out.box.b2;have jA:=qh (Jz A0 A1 A2 n0 c0 n1 c1 n2 c2 zs w2 (HR.out.below qJ.out.box.below HG.out.symm) b a HN.out.2);rw[sZ.out]at jA
     go_wp2_with fail
     refine jA.out.mono ?_;rintro e w3 ⟨rfl,hb⟩;have WZ:=qh (qJ.out.step hb);clear hb jA qJ sZ q0 q1 q2;have hw2:wrap64 ((b:Int)+1)=((b+1:Nat):Int):=kB (by have:=HN.out;have:=AO.out;omega)
     have HDT:=qh (show(gV zs n1 a b=false->nh (gV zs n1) a (b+1)=nh (gV zs n1) a b)/\(gV zs n1 a b=true->nh (gV zs n1) a (b+1)=nh (gV zs n1) a b++[(a,b)]) from
      ⟨fun h=>by rw[nh,if_neg (fun hc=>by rw[h]at hc;exact absurd hc.2 qd),List.append_nil],fun h=>by rw[nh,if_pos ⟨by have:=AO.out;omega,h⟩]⟩)
     go_upto_region 10 with fail
     go_cut [45] (fun o wz=>o = .bool (gV zs n1 a b)/\Hid (EL g w A0 A1 A2 n0 c0 n1 c1 n2 c2 (nU (gV zs n1) n0 a++nh (gV zs n1) a b) n B d wz))
     case first =>
      by_cases y1:0<=f1
      ·have z1:decide (0<=f1)=true:=decide_eq_true y1
       go_wp2
       go_meet
       exact⟨by rw[jy.out,z1];rfl,WZ⟩
      ·have z1:decide (0<=f1)=false:=decide_eq_false y1
       go_wp2
       go_meet
       exact⟨by rw[jy.out,z1];rfl,WZ⟩
     case rest =>
      obtain⟨rfl,HK⟩:=hcut;clear jy WZ;cases EF:gV zs n1 a b with
      | false =>
       have HL:=qh (HDT.out.1 EF);clear EF;go_wp2
       rw[hw2];exact⟨⟨b+1,B,n,d,by have:=AO.out;omega,by have:=AO.out;omega,rfl,rfl,by rw[HL.out];exact HK⟩,by have:=AO.out;show n0-(((b+1:Nat):Int)).toNat<n0-((b:Nat):Int).toNat;omega⟩
      | true =>
       have HL:=qh (HDT.out.2 EF);clear EF;have W8:=qh (HK.out.step ((Below.refl wc.heap.size wc).alloc (Nat.le_refl _) (.cells #[.int .i64 (a:Int),.int .i64 (b:Int)] 45)));have W9:=qa (jE wc (.cells #[.int .i64 (a:Int),.int .i64 (b:Int)] 45));have hbz:g+1<=(wc.alloc (.cells #[.int .i64 (a:Int),.int .i64 (b:Int)] 45)).heap.size:=ql W8.out.box.b0;have Ek:=qh (show n<=400*400+400 by
        have x1:=RN (gV zs n1) n0 a;have x2:=RM (gV zs n1) a b;have x3:=AO.out;have x4:=HN.out;have x5:a*n0<=400*400:=Nat.mul_le_mul qo qo;have x6:=HK.out.len;rw[List.length_append]at x6
        omega)
       go_wp2_with (first|(at_builtin;refine aat rfl (.tmp 46) (.tmp 50) 33 45 rfl (.agg #[.int .i64 0,.int .i64 0]) 2 16 Tryz.underlying33 qk rfl qd (.slice B n d) n (fQ (eZ (nU (gV zs n1) n0 a++nh (gV zs n1) a b))) rfl ⟨wc.heap.size,0,none⟩ 1 1 rfl (fQ (eZ [(a,b)])) W8.out.own hbz rfl (ZU W9.out) (Qo _) (by have:=Ek.out;omega) (by have:=Ek.out;simp only[maxLen];omega) ?_;intro B' d' w4 O0 G0;have HS9:=qh (W8.out.app (a,b) O0.out G0.out))|fail)
       rw[hw2];exact⟨⟨b+1,B',n+1,d',by have:=AO.out;omega,by have:=AO.out;omega,rfl,rfl,by rw[HL.out,<- List.append_assoc];exact HS9⟩,by have:=AO.out;show n0-(((b+1:Nat):Int)).toNat<n0-((b:Nat):Int).toNat;omega⟩
    ·have e1:decide ((b:Int)<(n0:Int))=false:=decide_eq_false qo
     have e2:(b<n0)=False:=eq_false qo;obtain rfl:b=n0:=by omega
     have HS:=qh (show EL g w A0 A1 A2 b c0 n1 c1 n2 c2 (nU (gV zs n1) b (a+1)) n B d _ from hJ.out);have hw1:wrap64 ((a:Int)+1)=((a+1:Nat):Int):=kB (by have:=HN.out;have:=P_.out;omega);go_wp2
     rw[hw1];exact⟨⟨a+1,B,n,d,P_.out,rfl,rfl,HS⟩,by have:=P_.out;show b-(((a+1:Nat):Int)).toNat<b-((a:Nat):Int).toNat;omega⟩
  ·have e1:decide ((a:Int)<(n0:Int))=false:=decide_eq_false qo
   have e2:(a<n0)=False:=eq_false qo;obtain rfl:a=n0:=by omega
   go_wp2
   go_ret
   exact⟨A,n,c,rfl,by rw[HG.out];exact hI.out.own,hI.out.len,by rw[HG.out];exact hI.out.box.below⟩
end Go.Proofs.YtcmepkhjggpmeaaGreat
namespace Go.Proofs.YtcmepkhjggpmeaaGreat
open Go.RowKit aP Go.Sort Go.Shelf Go.Proofs.aD.aY
def tU (x y:Int):Int:=if x<y then -1 else if y<x then 1 else 0
def AP (x y:Nat × Nat):Int:=if tU x.1 y.1≠0 then tU x.1 y.1 else tU x.2 y.2
theorem ap1 (x:Int) (W:World):Calls Tryz.prog 61 #[.int .i64 x] W fun e w'=>e = .returned (.bool false)/\w'=W:=by
 go_enter Tryz.func61,Tryz.ntmps61;go_wp2
 go_ret
 exact⟨by simp,rfl⟩
theorem X0 (x y:Int) (W:World):Calls Tryz.prog 37 #[.int .i64 x,.int .i64 y] W fun e w'=>e = .returned (.int .i64 (tU x y))/\w'=W:=by
 have HN:=qh (fun x=>ap1 x W);by_cases h1:x<y
 ·have e1:decide (x<y)=true:=decide_eq_true h1
  have HR:=qh (show tU x y = -1 from if_pos h1);clear h1;go_enter Tryz.func37,Tryz.ntmps37;go_wp2_with (go_at_call 61;refine(HN.out _).mono ?_;rintro e w' ⟨rfl,rfl⟩)
  go_ret
  exact⟨by rw[HR.out];rfl,rfl⟩
 ·have e1:decide (x<y)=false:=decide_eq_false h1
  by_cases h2:y<x
  ·have e2:decide (y<x)=true:=decide_eq_true h2
   have HR:=qh (show tU x y=1 from(if_neg h1).trans (if_pos h2));clear h1 h2;go_enter Tryz.func37,Tryz.ntmps37;go_wp2_with (go_at_call 61;refine(HN.out _).mono ?_;rintro e w' ⟨rfl,rfl⟩)
   go_ret
   exact⟨by rw[HR.out];rfl,rfl⟩
  ·have e2:decide (y<x)=false:=decide_eq_false h2
   have HR:=qh (show tU x y=0 from(if_neg h1).trans (if_neg h2));clear h1 h2;go_enter Tryz.func37,Tryz.ntmps37;go_wp2_with (go_at_call 61;refine(HN.out _).mono ?_;rintro e w' ⟨rfl,rfl⟩)
   go_ret
   exact⟨by rw[HR.out];rfl,rfl⟩
theorem ar8 (b:Nat) (x y:Int) (W:World) (c0:W.cell? ⟨b,0,none⟩=some (.int .i64 x)) (c1:W.cell? ⟨b,1,none⟩=some (.int .i64 y)) :
  Calls Tryz.prog 36 #[.slice (some ⟨b,0,none⟩) 2 2] W fun e w'=>e = .returned (.int .i64 (if x≠0 then x else y))/\w'=W:=by
 obtain⟨r,hr⟩:∃ r,(if x≠0 then x else y)=r:=⟨_,rfl⟩
 rw[hr];by_cases h1:x=0
 ·have e1:(x != 0)=false:=bne_eq_false_iff_eq.mpr h1
  have HR:=qh (show r=y from hr.symm.trans (if_neg (fun h=>h h1)));clear h1 hr;by_cases h2:y=0
  ·have e2:(y != 0)=false:=bne_eq_false_iff_eq.mpr h2
   have HY:=qh h2;clear h2;go_enter Tryz.func36,Tryz.ntmps36;go_wp2
   refine wp_loop_rounds 3 ?_;rw[rounds_succ];go_wp2
   rw[rounds_succ];go_wp2
   rw[rounds_succ];go_wp2
   go_ret
   exact⟨by rw[HR.out,HY.out];rfl,rfl⟩
  ·have e2:(y != 0)=true:=bne_iff_ne.mpr h2
   clear h2;go_enter Tryz.func36,Tryz.ntmps36;go_wp2
   refine wp_loop_rounds 2 ?_;rw[rounds_succ];go_wp2
   rw[rounds_succ];go_wp2
   go_ret
   exact⟨by rw[HR.out];rfl,rfl⟩
 ·have e1:(x != 0)=true:=bne_iff_ne.mpr h1
  have HR:=qh (show r=x from hr.symm.trans (if_pos h1));clear h1 hr;go_enter Tryz.func36,Tryz.ntmps36;go_wp2
  refine wp_loop_rounds 1 ?_;rw[rounds_succ];go_wp2
  go_ret
  exact⟨by rw[HR.out];rfl,rfl⟩
theorem amx (x y:Nat × Nat) (W:World):Calls Tryz.prog 35 #[.agg #[.int .i64 (x.1:Int),.int .i64 (x.2:Int)],.agg #[.int .i64 (y.1:Int),.int .i64 (y.2:Int)]] W fun e w'=>e = .returned (.int .i64 (AP x y))/\∃ q os,w'=grow (W.drewN q) os:=by
 have LU:=qh (fun W=>X0 x.1 y.1 W);have pF:=qh (fun W=>X0 x.2 y.2 W);have HR:=qh (show AP x y=if tU x.1 y.1≠0 then tU x.1 y.1 else tU x.2 y.2 from rfl);rw[HR.out];obtain⟨r1,h1⟩:∃ r,tU x.1 y.1=r:=⟨_,rfl⟩
 obtain⟨r2,h2⟩:∃ r,tU x.2 y.2=r:=⟨_,rfl⟩
 rw[h1]at LU
 rw[h2]at pF
 rw[h1,h2];clear h1 h2 HR;have HO:=qh (fun (b:Nat) (W':World) c0 c1=>ar8 b r1 r2 W' c0 c1);obtain⟨r,hr⟩:∃ r,(if r1≠0 then r1 else r2)=r:=⟨_,rfl⟩
 rw[hr]at HO ⊢
 clear hr;go_enter Tryz.func35,Tryz.ntmps35;go_upto_region 1 with fail
 generalize hW2:((W.alloc (.cells #[.int .i64 (x.1:Int),.int .i64 (x.2:Int)] 45)).alloc (.cells #[.int .i64 (y.1:Int),.int .i64 (y.2:Int)] 45))=W2;have a0:W2.cell? ⟨W.heap.size,0,none⟩=some (.int .i64 (x.1:Int)):=by rw[<- hW2];simp[go_sem]
 have a1:W2.cell? ⟨W.heap.size,1,none⟩=some (.int .i64 (x.2:Int)):=by rw[<- hW2];simp[go_sem]
 have b0:W2.cell? ⟨W.heap.size+1,0,none⟩=some (.int .i64 (y.1:Int)):=by rw[<- hW2];simp[go_sem]
 have b1:W2.cell? ⟨W.heap.size+1,1,none⟩=some (.int .i64 (y.2:Int)):=by rw[<- hW2];simp[go_sem]
 have HW:=qh hW2;clear hW2;refine Xu (C:=fun w'=>∃ n,w'=W2.drewN n) 10 qk qk ⟨1,rfl⟩ ?_;simp only[List.take_succ_cons,List.take_zero,List.drop_succ_cons,List.drop_zero];repeat(go_big_quiet_step ((first|(go_at_call 37;with_reducible exact Calls.quiet_of_same (LU.out _))|(go_at_call 37;with_reducible exact Calls.quiet_of_same (pF.out _)))))
 refine wpQuiet_nil ?_;intro w5 hw';obtain⟨n,rfl⟩:=hw';go_wp2_with fail
 refine(HO.out W2.heap.size ((W2.drewN n).alloc (.cells #[.int .i64 r1,.int .i64 r2] 3)) (gB (jE (W2.drewN n) _) 0) (gB (jE (W2.drewN n) _) 1)).mono ?_;rintro e w' ⟨rfl,rfl⟩;go_wp2
 go_ret
 refine⟨rfl,n,#[.cells #[.int .i64 (x.1:Int),.int .i64 (x.2:Int)] 45 (0,0),.cells #[.int .i64 (y.1:Int),.int .i64 (y.2:Int)] 45 (0,0)]++#[.cells #[.int .i64 r1,.int .i64 r2] 3 (0,0)],?_⟩;rw[<- grow_grow,<- HW.out,alloc_eq_grow,alloc_eq_grow,alloc_eq_grow,grow_grow];rfl
theorem JL (x y:Nat × Nat):ltOf AP x y=decide (x.1<y.1\/(x.1=y.1/\x.2<y.2)):=by
 unfold ltOf AP tU;by_cases a:x.1<y.1
 ·simp[a]
 ·by_cases b:y.1<x.1
  ·have:¬ x.1=y.1:=by omega
   simp[a,b,this]
  ·have e:x.1=y.1:=by omega
   by_cases c:x.2<y.2
   ·simp[e,c]
   ·by_cases d:y.2<x.2 <;> simp[e,c,d]
theorem alF:SWO (ltOf AP) where
 irrefl x:=by rw[JL];simp
 trans x y z h1 h2:=by rw[JL]at *;simp at *;omega
 ntrans x y z h1 h2:=by rw[JL]at *;simp at *;omega
theorem alG (x y:Nat × Nat) (h1:ltOf AP x y=false) (h2:ltOf AP y x=false):x=y:=by
 rw[JL]at *
 simp at *;exact Prod.ext qo qo
def Hu (x:Nat × Nat):List Value:=[.int .i64 (x.1:Int),.int .i64 (x.2:Int)]
def wY (x y:Nat × Nat):Bool:=!(ltOf AP) y x
theorem Nd (x y:Nat × Nat):wY x y=true↔(x.1<y.1\/(x.1=y.1/\x.2<=y.2)):=by
 unfold wY;rw[JL];simp;omega
theorem ahW (L:List (Nat × Nat)):(L.mergeSort wY).Pairwise fun x y=>x.1<y.1\/(x.1=y.1/\x.2<=y.2) :=
 (List.pairwise_mergeSort (le:=wY) (fun a b c h1 h2=>by rw[Nd]at *;omega) (fun a b=>by rw[Bool.or_eq_true,Nd,Nd];omega) L).imp fun h=>(Nd _ _).1 h
theorem aaw:∀ (L:List (Nat × Nat)) (t:Nat),t<L.length*2->(fQ (eZ L))[t]! =(Hu L[t / 2]!)[t%2]!
 | [],t,h=>absurd h (by simp)
 | x::r,0,_=>rfl
 | x::r,1,_=>rfl
 | x::r,t+2,h=>by
  have ih:=aaw r t (by simp at h;omega)
  have e1:(t+2) / 2=t / 2+1:=by omega
  have e2:(t+2)%2=t%2:=by omega
  rw[e1,e2]
  have e3:(x::r)[t / 2+1]! =r[t / 2]!:=by simp
  rw[e3,<- ih]
  simp[eZ,fQ]
theorem NP:∀ L:List (Nat × Nat),(fQ (eZ L)).length=L.length*2
 | []=>rfl
 | x::r=>by
  have:=NP r
  unfold fQ at *
  simp[eZ]at *
  omega
theorem ZX (L:List (Nat × Nat)):flatK Hu 2 L.toArray=(fQ (eZ L)).toArray:=by
 refine ext_get! (by rw[size_flatK];simp[NP]) fun t ht=>?_;rw[size_flatK]at ht
 rw[get_flatK _ _ _ _ ht];have h:=aaw L t (by simpa using ht);simp only[List.getElem!_toArray]at *;exact h.symm
theorem alH {W:World} {base g n c:Nat} {cs:List Value} (h:W.ownsRow base 45 2 (.slice (some ⟨g,0,none⟩) n c) n cs) (F:List Value) (hF:F.length=n*2) (q:Nat) (os:Array Obj) :
  (grow (putRow id (Go.Sort.ahead W q) g 0 F.toArray) os).ownsRow base 45 2 (.slice (some ⟨g,0,none⟩) n c) n F/\W.grownBy (grow (putRow id (Go.Sort.ahead W q) g 0 F.toArray) os) (some g):=by
 rcases h.2 with ⟨h1,-⟩|⟨g',cap,cur,he,hb,hh,h1,h2,h3,h4⟩
 ·cases h1
 ·injection he with e1 e2 e3
  injection e1 with e1
  injection e1 with e1 _ _
  subst e1 e3;have hl:=(Array.getElem?_eq_some_iff.1 hh).1;have hg:∀ k,k<W.heap.size->(grow (putRow id (Go.Sort.ahead W q) g 0 F.toArray) os).heap[k]?=if g=k then (W.heap[k]?).map (onCells (putCells id 0 F.toArray)) else W.heap[k]?:=by
   intro k hk;show(W.heap.modify g (onCells (putCells id 0 F.toArray))++os)[k]?=_;rw[Array.getElem?_append_left (by simpa using hk),Array.getElem?_modify]
  refine⟨⟨hF,.inr ⟨g,c,putCells id 0 F.toArray cur,rfl,hb,?_,h1,h2,by unfold putCells;rw[Array.size_mapIdx];exact h3,?_⟩⟩,⟨rfl,rfl,rfl,?_,fun k hk hne=>?_⟩⟩
  ·rw[hg g hl,if_pos rfl,hh]
   rfl
  ·have hle:n*2<=c*2:=Nat.mul_le_mul_right _ h1
   apply List.ext_getElem?;intro i;rw[List.getElem?_take];split
   ·rename_i hi
    unfold putCells;rw[Array.getElem?_toList,Array.getElem?_mapIdx,Array.getElem?_eq_getElem qo,List.getElem?_eq_getElem qo];have:0<=i/\i<0+F.toArray.size:=by simp;omega
    simp only[Option.map_some,if_pos this,id];rw[getElem!_pos _ _ (by simp;omega)];simp
   ·rw[List.getElem?_eq_none qo]
  ·show W.heap.size<=(W.heap.modify g (onCells (putCells id 0 F.toArray))++os).size
   simp
  ·rw[hg k hk,if_neg (fun e=>hne (by rw[e]))]
theorem amy (A:Option Addr) (n c base:Nat) (L:List (Nat × Nat)) (W:World) (h:W.ownsRow base 45 2 (.slice A n c) n (fQ (eZ L))) (hl:L.length=n) (hn:n<=1000000) :
  Calls Tryz.prog 34 #[.slice A n c,.func (.func 35) #[] #[]] W fun e w'=>e = .returned (.tuple #[])/\w'.ownsRow base 45 2 (.slice A n c) n (fQ (eZ (L.mergeSort wY)))/\W.grownBy w' (Value.slice A n c).ownBlock:=by
 rcases Nat.eq_zero_or_pos n with h0|h0
 ·subst h0
  obtain rfl:=List.eq_nil_of_length_eq_zero hl;refine(AnyF.slices_SortFunc_none (P:=Tryz.prog) (ρ:=Tryz.XZ) { Tryz.ab5 with } A c (.func (.func 35) #[] #[]) W).mono ?_;rintro e w' ⟨rfl,rfl⟩;exact⟨rfl,by simpa using h,World.grownBy.refl _ _⟩
 ·rcases h.2 with ⟨-,h1⟩|⟨g,cap,cur,he,hb,hh,h1,h2,h3,h4⟩
  ·omega
  ·injection he with e1 e2 e3
   subst e1 e3;have hH:HoldsK Hu 2 W g 0 L.toArray:=by
    unfold HoldsK;rw[ZX];intro j hj;have hj':j<(fQ (eZ L)).length:=by simpa using hj
    have hs:=h.1;have hle:n*2<=c*2:=Nat.mul_le_mul_right _ h1;rw[Nat.zero_add];refine⟨?_,bU hh _⟩;rw[gB hh,Array.getElem?_eq_getElem qo];have h5:cur.toList[j]?=(fQ (eZ L))[j]?:=by rw[<- h4,List.getElem?_take,if_pos qo]
    rw[getElem!_pos _ _ (by simpa using hj')];rw[Array.getElem?_toList,Array.getElem?_eq_getElem qo,List.getElem?_eq_getElem hj']at h5
    simpa using h5
   have eg:∀ args w,(callFunc 35 args).run Tryz.prog w = .ok (.enter 35 args) w:=enters_of Tryz.func35 qk rfl;have hS:=AnyQ.slices_SortFunc_total Tryz.ab5 2 (fun w=>by kernel_rfl) (fun w=>by kernel_rfl) Hu (fun _=>rfl) (fun x v hv=>by simp[Hu]at hv;rcases hv with rfl|rfl <;> rfl) AP alF 35 #[] g 0 c L.toArray W eg (fun m os dk hk x y=>amx x y _) hH (Array.getElem?_eq_some_iff.1 hh).1 (by simp;omega) alG;rw[show L.toArray.size=n by simpa using hl]at hS
   refine hS.mono ?_;rintro e w' ⟨rfl,q,os,rfl⟩;have hp:=alH h (fQ (eZ (L.mergeSort wY))) (by rw[NP,List.length_mergeSort,hl]) q os;have e9:sortWorldK Hu 2 W g 0 q (L.mergeSort wY).toArray os=grow (putRow id (Go.Sort.ahead W q) g 0 (fQ (eZ (L.mergeSort wY))).toArray) os:=by
    unfold sortWorldK putRowK;rw[ZX]
   exact⟨rfl,by rw[<- e9]at hp;exact hp.1,by rw[<- e9]at hp;exact hp.2⟩
end Go.Proofs.YtcmepkhjggpmeaaGreat
