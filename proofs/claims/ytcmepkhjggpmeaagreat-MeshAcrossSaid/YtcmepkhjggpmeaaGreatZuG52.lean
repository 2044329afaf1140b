import Derived.Test.YtcmepkhjggpmeaaGreatZuG51
set_option linter.all false
set_option maxRecDepth 100000
set_option maxHeartbeats 8000000
namespace Go.Proofs.YtcmepkhjggpmeaaGreat
open Go.RowKit aP Go.Proofs.aF.R Go.Proofs.aF.Z Go.Proofs.aD.aY
abbrev rA (a:RG):Array Value:=#[.bool a.1,.string a.2.1,.string a.2.2]
structure AJ (g s:Nat) (w:World) (A0 A1 A2:Option Addr) (n0 c0 n1 c1 n2 c2:Nat) (su:RG) (W:World):Prop where
 box:MB g w A0 A1 A2 n0 c0 n1 c1 n2 c2 W
 br:aO (W.heap[g+1]?=some (.cells #[.bool false,.string ⟨#[]⟩,.string ⟨#[]⟩] 40 (0,0)))
 bs:aO (W.heap[s]?=some (.cells (rA su) 40 (0,0)))
 hb:g+1<s
theorem AJ.step {g s:Nat} {w:World} {A0 A1 A2:Option Addr} {n0 c0 n1 c1 n2 c2:Nat} {su:RG} {W W':World} (h:AJ g s w A0 A1 A2 n0 c0 n1 c1 n2 c2 su W) (hb:Below W.heap.size W W'):AJ g s w A0 A1 A2 n0 c0 n1 c1 n2 c2 su W' :=
 ⟨h.box.step hb,⟨gP h.br.out hb⟩,⟨gP h.bs.out hb⟩,h.hb⟩
theorem AJ.set {g s:Nat} {w:World} {A0 A1 A2:Option Addr} {n0 c0 n1 c1 n2 c2:Nat} {su:RG} {W:World} (h:AJ g s w A0 A1 A2 n0 c0 n1 c1 n2 c2 su W) (r:RG):AJ g s w A0 A1 A2 n0 c0 n1 c1 n2 c2 r (((W.setCell ⟨s,0,none⟩ (.bool r.1)).setCell ⟨s,1,none⟩ (.string r.2.1)).setCell ⟨s,2,none⟩ (.string r.2.2)):=by
 have hl:=h.hb;have hf:∀ (W:World) (q:Nat),q≠s->∀ i u,(W.setCell ⟨s,i,none⟩ u).heap[q]?=W.heap[q]?:=fun W q hq i u=>Below.heap_setCell W _ u q (fun e=>hq e);have h3:∀ q,q≠s->(((W.setCell ⟨s,0,none⟩ (.bool r.1)).setCell ⟨s,1,none⟩ (.string r.2.1)).setCell ⟨s,2,none⟩ (.string r.2.2)).heap[q]?=W.heap[q]?:=fun q hq=>(hf _ q hq _ _).trans ((hf _ q hq _ _).trans (hf _ q hq _ _));exact⟨⟨((h.box.below.setCell (p:=⟨s,0,none⟩) (by simp only;omega) _).setCell (p:=⟨s,1,none⟩) (by simp only;omega) _).setCell (p:=⟨s,2,none⟩) (by simp only;omega) _,(World.cell?_of_block (a:=⟨g,0,none⟩) (h3 g qo)).trans h.box.b0,(World.cell?_of_block (a:=⟨g,1,none⟩) (h3 g qo)).trans h.box.b1,(World.cell?_of_block (a:=⟨g,2,none⟩) (h3 g qo)).trans h.box.b2⟩,⟨(h3 (g+1) qo).trans h.br.out⟩,⟨nG (nG (nG h.bs.out 0 _) 1 _) 2 _⟩,h.hb⟩
theorem ab4 {g r:Nat} {w:World} {x0 x1 x2:Value} {W:World} (hb:Below g w W) (hr:aO (W.heap[r]?=some (.cells #[x0,x1,x2] 40 (0,0)))) (h1:g<r) (a b c:Value) :
  (((W.setCell ⟨r,0,none⟩ a).setCell ⟨r,1,none⟩ b).setCell ⟨r,2,none⟩ c).heap[r]?=some (.cells #[a,b,c] 40 (0,0))/\Below g w (((W.setCell ⟨r,0,none⟩ a).setCell ⟨r,1,none⟩ b).setCell ⟨r,2,none⟩ c) :=
 ⟨nG (nG (nG hr.out 0 a) 1 b) 2 c,((hb.setCell (p:=⟨r,0,none⟩) (Nat.le_of_lt h1) a).setCell (p:=⟨r,1,none⟩) (Nat.le_of_lt h1) b).setCell (p:=⟨r,2,none⟩) (Nat.le_of_lt h1) c⟩
abbrev Ix (W:World) (ad:Addr) (i:Nat) (p:aZ):Prop:=W.cell? (ad.add (i*6))=some (.bool p.f0.f0.f0)/\W.cell? ⟨(ad.add (i*6)).block,(ad.add (i*6)).off+1,none⟩=some (.string p.f0.f0.f1)/\W.cell? ⟨(ad.add (i*6)).block,(ad.add (i*6)).off+2,none⟩=some (.string p.f0.f1)/\W.cell? ⟨(ad.add (i*6)).block,(ad.add (i*6)).off+3,none⟩=some (.bool p.f1.f0.f0)/\W.cell? ⟨(ad.add (i*6)).block,(ad.add (i*6)).off+4,none⟩=some (.string p.f1.f0.f1)/\W.cell? ⟨(ad.add (i*6)).block,(ad.add (i*6)).off+5,none⟩=some (.string p.f1.f1)
theorem Ix.step {W W':World} {ad:Addr} {i:Nat} {p:aZ} (hb:Below W.heap.size W W') (h:Ix W ad i p):Ix W' ad i p :=
 have f:∀ {a:Addr} {v:Value},W.cell? a=some v->W'.cell? a=some v:=fun e=>(hb.cell (ql e)).trans e
 ⟨f h.1,f h.2.1,f h.2.2.1,f h.2.2.2.1,f h.2.2.2.2.1,f h.2.2.2.2.2⟩
abbrev SA (w0:World) (b0 t0 t1 t2 ad:Addr) (n c i j k:Nat) (p q r:aZ) (W:World):Prop:=W.cell? b0=some (.slice (some ad) n c)/\W.cell? t0=some (.int .i64 (i:Int))/\W.cell? t1=some (.int .i64 (j:Int))/\W.cell? t2=some (.int .i64 (k:Int))/\Ix W ad i p/\Ix W ad j q/\Ix W ad k r/\Below w0.heap.size w0 W
theorem Nc {w0:World} {b0 t0 t1 t2 ad:Addr} {n c i j k:Nat} {p q r:aZ} {W W':World} (hb:Below W.heap.size W W') (h:SA w0 b0 t0 t1 t2 ad n c i j k p q r W):SA w0 b0 t0 t1 t2 ad n c i j k p q r W' :=
 have f:∀ {a:Addr} {v:Value},W.cell? a=some v->W'.cell? a=some v:=fun e=>(hb.cell (ql e)).trans e
 ⟨f h.1,f h.2.1,f h.2.2.1,f h.2.2.2.1,h.2.2.2.2.1.step hb,h.2.2.2.2.2.1.step hb,h.2.2.2.2.2.2.1.step hb,h.2.2.2.2.2.2.2.trans (hb.mono h.2.2.2.2.2.2.2.size)⟩
theorem alC {w0:World} {b0 t0 t1 t2 ad:Addr} {n c i j k:Nat} {p q r:aZ} {W:World} (h:SA w0 b0 t0 t1 t2 ad n c i j k p q r W):SA w0 b0 t0 t1 t2 ad n c i j k p q r W.drew:=Nc (Below.refl W.heap.size W).drew h
theorem ahU {w0:World} {b0 t0 t1 t2 ad:Addr} {n c i j k:Nat} {p q r:aZ} {W:World} (o:Obj) (h:SA w0 b0 t0 t1 t2 ad n c i j k p q r W):SA w0 b0 t0 t1 t2 ad n c i j k p q r (W.alloc o):=Nc ((Below.refl _ _).alloc (Nat.le_refl _) _) h
theorem amt {w0:World} {b0 t0 t1 t2 ad:Addr} {n c i j k:Nat} {p q r:aZ} {W:World} (h0:SA w0 b0 t0 t1 t2 ad n c i j k p q r w0) (h:SA w0 b0 t0 t1 t2 ad n c i j k p q r W) {m:Nat} (hm:w0.heap.size<=m) (u v z:Value):SA w0 b0 t0 t1 t2 ad n c i j k p q r (((W.setCell ⟨m,0,none⟩ u).setCell ⟨m,1,none⟩ v).setCell ⟨m,2,none⟩ z) :=
 Nc (((h.2.2.2.2.2.2.2.setCell (p:=⟨m,0,none⟩) hm u).setCell (p:=⟨m,1,none⟩) hm v).setCell (p:=⟨m,2,none⟩) hm z) h0
theorem ag' (A0 A1 A2:Option Addr) (c0 n1 c1 c2:Nat) (ps:PS) (zs:List Int) (ss:SS) (w:World) (hA:ow w A0 A1 A2 c0 c2 ps zs n1 ss) (K:Nat) (hK:nB.f K ps=some 0) (bn:Nat->Nat->Nat->Int) (hO:CP K ps bn) (hM:n9 ps.length zs n1 ss bn) :
  Calls Tryz.prog 17 #[.agg #[.slice A0 ps.length c0,.slice A1 n1 c1,.slice A2 ss.length c2]] w fun e w'=>e = .returned (.int .i64 0)/\Below w.heap.size w w':=by
 have HB:=qh (MB.new w A0 A1 A2 ps.length c0 n1 c1 ss.length c2);have s9:=qh (Mq A0 A1 A2 c0 n1 c1 c2 ps zs ss _ (hA.below HB.out.below rfl) K hK bn hO hM);clear hA hK hO hM;go_enter Tryz.func17,Tryz.ntmps17;go_wp2_with (refine s9.out.mono ?_;rintro e w2 ⟨kb,B,rfl,hkb,hB,hmp,e0,e1,e2,e3,hb⟩;refine Stop.out ?_)
 refine⟨?_⟩;have bV:=qh (HB.out.step hb);clear hb hkb hB hmp e0 e1 e2 e3 s9;go_wp2
 go_ret
 exact⟨rfl,bV.out.below⟩
theorem ar6:Gr.f 0=some (false,⟨#[]⟩,⟨#[1]⟩):=by
 unfold Gr.f FR.f;rw[if_pos qd,YK];rfl
theorem ar7:w_.f 0=some (false,⟨#[]⟩,⟨#[1]⟩):=by
 unfold w_.f Fo.f;rw[if_pos qd,YK];rfl
theorem amu (A0 A1 A2:Option Addr) (c0 n1 c1 c2:Nat) (ps:PS) (zs:List Int) (ss:SS) (w:World) (hA:ow w A0 A1 A2 c0 c2 ps zs n1 ss) (K:Nat) (hK:nB.f K ps=some 0) (bn:Nat->Nat->Nat->Int) (hO:CP K ps bn) (hM:n9 ps.length zs n1 ss bn) (ar:Nat->Nat->Nat->RG) (hC:∀ i j k,i<ps.length->j<ps.length->k<ps.length->p_.f K (au ps i).f0.f0.f0 (au ps i).f0.f0.f1 (au ps i).f0.f1 (au ps i).f1.f0.f0 (au ps i).f1.f0.f1 (au ps i).f1.f1 (au ps j).f0.f0.f0 (au ps j).f0.f0.f1 (au ps j).f0.f1 (au ps j).f1.f0.f0 (au ps j).f1.f0.f1 (au ps j).f1.f1 (au ps k).f0.f0.f0 (au ps k).f0.f0.f1 (au ps k).f0.f1 (au ps k).f1.f0.f0 (au ps k).f1.f0.f1 (au ps k).f1.f1=some ((ar i j k).1,(ar i j k).2.1,(ar i j k).2.2,0)) (su:Nat->RG) (h0:su 0=(false,⟨#[]⟩,⟨#[1]⟩)) (hS:∀ t,t<n1->BC.f K (su t).1 (su t).2.1 (su t).2.2 (ar (zs.getD (3*t) 0).toNat (zs.getD (3*t+1) 0).toNat (zs.getD (3*t+2) 0).toNat).1 (ar (zs.getD (3*t) 0).toNat (zs.getD (3*t+1) 0).toNat (zs.getD (3*t+2) 0).toNat).2.1 (ar (zs.getD (3*t) 0).toNat (zs.getD (3*t+1) 0).toNat (zs.getD (3*t+2) 0).toNat).2.2=some ((su (t+1)).1,(su (t+1)).2.1,(su (t+1)).2.2,0)) :
  Calls Tryz.prog 11 #[.agg #[.slice A0 ps.length c0,.slice A1 n1 c1,.slice A2 ss.length c2]] w fun e w'=>e = .returned (.tuple #[.agg (rA (su n1)),.int .i64 0])/\Below w.heap.size w w':=by
 obtain⟨n0,hn0⟩:∃ n,ps.length=n:=⟨_,rfl⟩
 obtain⟨n2,hn2⟩:∃ n,ss.length=n:=⟨_,rfl⟩
 have HL:=qh (show n0<=400/\n1<=900/\n2<=1300 from ⟨hn0 ▸ hM.l0,hM.l1,hn2 ▸ hM.l2⟩);have H0:=qh hn0;have HA:=qh hA;have HM:=qh hM;have HC:=qh hC;have HS:=qh hS;have WV:=qh h0;have kF:=qh ((MB.new w A0 A1 A2 n0 c0 n1 c1 n2 c2).step ((Below.refl _ _).alloc (Nat.le_refl _) (.cells #[.bool false,.string ⟨#[]⟩,.string ⟨#[]⟩] 40)));have dY:=qa (jE (w.alloc (.cells #[.slice A0 n0 c0,.slice A1 n1 c1,.slice A2 n2 c2] 26)) (.cells #[.bool false,.string ⟨#[]⟩,.string ⟨#[]⟩] 40));have P8:=qh (ag' A0 A1 A2 c0 n1 c1 c2 ps zs ss _ (hA.below kF.out.below rfl) K hK bn hO hM);rw[hn0,hn2]at P8
 rw[hn0,hn2];clear hA hK hO hM hC hS h0 hn0 hn2;obtain⟨g,hg⟩:∃ g,w.heap.size=g:=⟨_,rfl⟩
 have HG:=qh hg;rw[hg]at kF
 have e0:(w.alloc (.cells #[.slice A0 n0 c0,.slice A1 n1 c1,.slice A2 n2 c2] 26)).heap.size=g+1:=by simp[go_sem,hg]
 rw[e0]at dY
 clear e0;go_enter Tryz.func11,Tryz.ntmps11;have q0:=kF.out.b0;have q1:=kF.out.b1;have q2:=kF.out.b2;go_upto_region 1 with fail
 generalize ((w.alloc (.cells #[.slice A0 n0 c0,.slice A1 n1 c1,.slice A2 n2 c2] 26)).alloc (.cells #[.bool false,.string ⟨#[]⟩,.string ⟨#[]⟩] 40))=w1 at kF dY P8 q0 q1 q2 ⊢;go_wp2_with (refine P8.out.mono ?_;rintro e w2 ⟨rfl,hb⟩;refine Stop.out ?_)
 refine⟨?_⟩;have bV:=qh (kF.out.step hb);have gy:=qa (gP dY.out hb);clear hb q0 q1 q2 kF dY P8 hg;have LV:=qh (Gr.calls 0 false ⟨#[]⟩ ⟨#[1]⟩ w2 ar6);go_wp2_with (refine LV.out.mono ?_;rintro e w3 ⟨rfl,hb⟩;refine Stop.out ?_)
 refine⟨?_⟩
 have HI:=qh (show AJ g w3.heap.size w A0 A1 A2 n0 c0 n1 c1 n2 c2 (su 0) (w3.alloc (.cells #[.bool false,.string ⟨#[]⟩,.string ⟨#[1]⟩] 40)) from
  ⟨(bV.out.step hb).step ((Below.refl _ _).alloc (Nat.le_refl _) _),⟨dJ (gP gy.out hb) _⟩,⟨by rw[WV.out];exact jE _ _⟩,Nat.lt_of_lt_of_le (oh gy.out) hb.size⟩)
 clear hb bV gy LV;have q1:=HI.out.box.b1;go_upto_region 5 with fail
 generalize (w3.alloc (.cells #[.bool false,.string ⟨#[]⟩,.string ⟨#[1]⟩] 40))=w4 at HI q1 ⊢;generalize w3.heap.size=s at HI ⊢;go_wp2
 clear q1;go_loopw [20] (fun v wr=>∃ (T:Nat),T<=n1/\v = .int .i64 (T:Int)/\Hid (AJ g s w A0 A1 A2 n0 c0 n1 c1 n2 c2 (su T) wr)) (fun v _=>n1-(intOf v).toNat)
 case atStart=>exact⟨0,Nat.zero_le _,rfl,HI⟩
 case round =>
  obtain⟨T,ht,rfl,hI⟩:=hrel;clear HI;by_cases htn:T<n1
  ·have e1:decide ((T:Int)<(n1:Int))=true:=decide_eq_true qo
   have HT:=qh htn;have gU:=HM.out.inr (j:=3*T) qo;have eE:=HM.out.inr (j:=3*T+1) qo;have lZ:=HM.out.inr (j:=3*T+2) qo;rw[H0.out]at gU eE lZ
   have AM:=HS.out T htn;obtain⟨na,iR⟩:∃ x:Nat,zs.getD (3*T) 0=x:=⟨_,(Int.toNat_of_nonneg gU.1).symm⟩
   obtain⟨nb,iT⟩:∃ x:Nat,zs.getD (3*T+1) 0=x:=⟨_,(Int.toNat_of_nonneg eE.1).symm⟩
   obtain⟨nc,lX⟩:∃ x:Nat,zs.getD (3*T+2) 0=x:=⟨_,(Int.toNat_of_nonneg lZ.1).symm⟩
   rw[iR,iT,lX,Int.toNat_natCast,Int.toNat_natCast,Int.toNat_natCast]at AM
   rw[iR]at gU
   rw[iT]at eE
   rw[lX]at lZ
   have LK:=qh iR;have LL:=qh iT;have LJ:=qh lX;have dR:=qh (show na<n0/\nb<n0/\nc<n0 by omega);have xW:=qh (HC.out na nb nc (by rw[H0.out];exact dR.out.1) (by rw[H0.out];exact dR.out.2.1) (by rw[H0.out];exact dR.out.2.2));obtain⟨av,wP⟩:∃ x,ar na nb nc=x:=⟨_,rfl⟩
   obtain⟨sn,x_⟩:∃ x,su (T+1)=x:=⟨_,rfl⟩
   obtain⟨so,wW⟩:∃ x,su T=x:=⟨_,rfl⟩
   rw[wP]at xW
   rw[wP,x_,wW]at AM
   have WW:=qh x_;have Al:=qh AM;rw[wW]at hI
   have gA:=qh (HA.out.below hI.out.box.below HG.out.symm);obtain⟨ad,rfl,-⟩:=gA.out.t (by have:=HT.out;omega);obtain⟨y0,y1,y2⟩:=XX gA.out.t HT.out;rw[LK.out]at y0
   rw[LL.out]at y1
   rw[LJ.out]at y2
   have LN:((T:Int)<(n1:Int))=True:=eq_true (by have:=HT.out;omega);have LP:(T<n1)=True:=eq_true HT.out;have LQ:((0:Int)<=(T:Int))=True:=eq_true qo;have hw1:wrap64 ((T:Int)+1)=((T+1:Nat):Int):=kB (by have:=HL.out;have:=HT.out;omega);clear iR iT lX gU eE lZ wP x_ wW AM htn gA;have q0:=hI.out.box.b0;have q1:=hI.out.box.b1;go_upto_region 8 with fail
   clear q0 q1 y0 y1 y2 e1 LN LP LQ;have gT:=(Below.refl wr.heap.size wr).alloc (Nat.le_refl _) (.cells #[.int .i64 (na:Int),.int .i64 (nb:Int),.int .i64 (nc:Int)] 69);have jK:=qh (hI.out.step gT);have mF:=qa (jE wr (.cells #[.int .i64 (na:Int),.int .i64 (nb:Int),.int .i64 (nc:Int)] 69));clear hI gT;generalize (wr.alloc (.cells #[.int .i64 (na:Int),.int .i64 (nb:Int),.int .i64 (nc:Int)] 69))=w2 at jK mF ⊢;generalize wr.heap.size=vb at mF ⊢;have HP:=qh (HA.out.below jK.out.box.below HG.out.symm).p;rw[H0.out]at HP
   have q0:=jK.out.box.b0;obtain⟨LY,rfl,-⟩:=oW HP.out (na:Int) qo (by have:=dR.out;omega);obtain⟨v0,v1,v2,_,_,_⟩:=z3 mF;have cQ:SA w2 ⟨g,0,none⟩ ⟨vb,0,none⟩ ⟨vb,1,none⟩ ⟨vb,2,none⟩ LY n0 c0 na nb nc (au ps na) (au ps nb) (au ps nc) w2:=⟨q0,v0,v1,v2,tD HP.out na dR.out.1,tD HP.out nb dR.out.2.1,tD HP.out nc dR.out.2.2,Below.refl _ _⟩
   have x2:((nb:Int)<(n0:Int))=True:=eq_true (by have:=dR.out;omega);have x3:((nc:Int)<(n0:Int))=True:=eq_true (by have:=dR.out;omega);have x4:((na:Int)<(n0:Int))=True:=eq_true (by have:=dR.out;omega);have u2:(nb<n0)=True:=eq_true dR.out.2.1;have u3:(nc<n0)=True:=eq_true dR.out.2.2;have u4:(na<n0)=True:=eq_true dR.out.1;clear q0 v0 v1 v2 HP;have Cy:=qh (fun W=>p_.calls K _ _ _ _ _ _ _ _ _ _ _ _ _ _ _ _ _ _ _ _ _ _ W xW.out);go_cut [8,9] (fun a b wx=>∃ (o:Nat),a = .pointer (some ⟨o,0,none⟩)/\b = .int .i64 0/\Hid (AJ g s w (some LY) (some ad) A2 n0 c0 n1 c1 n2 c2 so wx/\wx.heap[o]?=some (.cells (rA av) 40 (0,0))))
   case first =>
    go_region_held3 (SA w2 ⟨g,0,none⟩ ⟨vb,0,none⟩ ⟨vb,1,none⟩ ⟨vb,2,none⟩ LY n0 c0 na nb nc (au ps na) (au ps nb) (au ps nc)) (first|assumption|exact alC (by assumption)|exact ahU _ (by assumption)|exact amt cQ (by assumption) (Nat.le_refl _) _ _ _) (first|(go_at_call 39;refine(Cy.out _).mono ?_;rintro e wn ⟨rfl,iB⟩;have hS1:=Nc iB (by assumption);first|(have p0:=(iB.cell (p:=⟨w2.heap.size,0,none⟩) (by simp)).trans (show(World.alloc w2 (.cells #[.bool false,.string ⟨#[]⟩,.string ⟨#[]⟩] 40)).cell? ⟨w2.heap.size,0,none⟩=some (.bool false) by simp[go_sem]);have p1:=(iB.cell (p:=⟨w2.heap.size,1,none⟩) (by simp)).trans (show(World.alloc w2 (.cells #[.bool false,.string ⟨#[]⟩,.string ⟨#[]⟩] 40)).cell? ⟨w2.heap.size,1,none⟩=some (.string ⟨#[]⟩) by simp[go_sem]);have p2:=(iB.cell (p:=⟨w2.heap.size,2,none⟩) (by simp)).trans (show(World.alloc w2 (.cells #[.bool false,.string ⟨#[]⟩,.string ⟨#[]⟩] 40)).cell? ⟨w2.heap.size,2,none⟩=some (.string ⟨#[]⟩) by simp[go_sem]);have p3:=(iB.frozen (p:=⟨w2.heap.size,0,none⟩) (by simp)).trans (show(World.alloc w2 (.cells #[.bool false,.string ⟨#[]⟩,.string ⟨#[]⟩] 40)).frozen? ⟨w2.heap.size,0,none⟩=false by simp[go_sem]);have p4:=(iB.frozen (p:=⟨w2.heap.size,1,none⟩) (by simp)).trans (show(World.alloc w2 (.cells #[.bool false,.string ⟨#[]⟩,.string ⟨#[]⟩] 40)).frozen? ⟨w2.heap.size,1,none⟩=false by simp[go_sem]);have p5:=(iB.frozen (p:=⟨w2.heap.size,2,none⟩) (by simp)).trans (show(World.alloc w2 (.cells #[.bool false,.string ⟨#[]⟩,.string ⟨#[]⟩] 40)).frozen? ⟨w2.heap.size,2,none⟩=false by simp[go_sem]))|skip)|fail)
    all_goals go_wp2
    all_goals go_meet
    all_goals first
     | exact⟨_,rfl,rfl,qh ⟨jK.out.step (hS1.2.2.2.2.2.2.2.alloc hS1.2.2.2.2.2.2.2.size _),jE _ _⟩⟩
     | exact⟨_,rfl,rfl,qh ⟨jK.out.step (((hS1.2.2.2.2.2.2.2.setCell (p:=⟨_,0,none⟩) (Nat.le_refl _) _).setCell (p:=⟨_,1,none⟩) (Nat.le_refl _) _).setCell (p:=⟨_,2,none⟩) (Nat.le_refl _) _),nG (nG (nG (gP (ej (jE _ _)) iB) 0 _) 1 _) 2 _⟩⟩
   case rest =>
    obtain⟨o,rfl,rfl,HU⟩:=hcut;clear cQ Cy xW x2 x3 x4 u2 u3 u4 jK mF;have Fl:=qh HU.out.1;have AE:=qa HU.out.2;clear HU;obtain⟨b0,b1,b2,b3,b4,b5⟩:=z3 Fl.out.bs;obtain⟨d0,d1,d2,d3,d4,d5⟩:=z3 AE;have LZ:=qh (fun W=>BC.calls K _ _ _ _ _ _ _ _ _ _ W Al.out);go_wp2_with (refine(LZ.out _).mono ?_;rintro e w5 ⟨rfl,hb⟩;refine Stop.out ?_)
    refine⟨?_⟩;have wX:=qh (Fl.out.step hb);clear hb Fl AE LZ Al b0 b1 b2 b3 b4 b5 d0 d1 d2 d3 d4 d5;obtain⟨b0,b1,b2,b3,b4,b5⟩:=z3 wX.out.bs;go_wp2
    rw[hw1];exact⟨⟨T+1,HT.out,rfl,qh (by rw[WW.out];exact wX.out.set sn)⟩,by have:=HT.out;show n1-(((T+1:Nat):Int)).toNat<n1-((T:Nat):Int).toNat;omega⟩
  ·have e1:decide ((T:Int)<(n1:Int))=false:=decide_eq_false qo
   obtain rfl:T=n1:=by omega
   have hr3:=ab4 hI.out.box.below hI.out.br (Nat.lt_succ_self g) (.bool (su T).1) (.string (su T).2.1) (.string (su T).2.2);obtain⟨a0,a1,a2,a3,a4,a5⟩:=z3 hI.out.br;obtain⟨b0,b1,b2,b3,b4,b5⟩:=z3 hI.out.bs;go_wp2_with (refine Gq (p:=2) (u:=3) (g:=g+1) (cs:=rA (su T)) (v := .int .i64 0) ?_ ?_ ?_ hr3.1 Tryz.underlying40 ?_ ?_ ?_ ?_;exact(by kernel_rfl);exact(by kernel_rfl);exact(by kernel_rfl);rfl;exact(by kernel_rfl);rfl;exact⟨rfl,by rw[HG.out];exact hr3.2⟩)
theorem amv (A0 A1 A2:Option Addr) (c0 n1 c1 c2:Nat) (ps:PS) (zs:List Int) (ss:SS) (w:World) (hA:ow w A0 A1 A2 c0 c2 ps zs n1 ss) (K:Nat) (bn:Nat->Nat->Nat->Int) (hM:n9 ps.length zs n1 ss bn) (ar:Nat->Nat->Nat->RG) (hC:∀ i j k,i<ps.length->j<ps.length->k<ps.length->pW.f K (au ps i).f0.f0.f0 (au ps i).f0.f0.f1 (au ps i).f0.f1 (au ps i).f1.f0.f0 (au ps i).f1.f0.f1 (au ps i).f1.f1 (au ps j).f0.f0.f0 (au ps j).f0.f0.f1 (au ps j).f0.f1 (au ps j).f1.f0.f0 (au ps j).f1.f0.f1 (au ps j).f1.f1 (au ps k).f0.f0.f0 (au ps k).f0.f0.f1 (au ps k).f0.f1 (au ps k).f1.f0.f0 (au ps k).f1.f0.f1 (au ps k).f1.f1=some (ar i j k)) (su:Nat->RG) (h0:su 0=(false,⟨#[]⟩,⟨#[1]⟩)) (hS:∀ t,t<n1->gG.f K (su t).1 (su t).2.1 (su t).2.2 (ar (zs.getD (3*t) 0).toNat (zs.getD (3*t+1) 0).toNat (zs.getD (3*t+2) 0).toNat).1 (ar (zs.getD (3*t) 0).toNat (zs.getD (3*t+1) 0).toNat (zs.getD (3*t+2) 0).toNat).2.1 (ar (zs.getD (3*t) 0).toNat (zs.getD (3*t+1) 0).toNat (zs.getD (3*t+2) 0).toNat).2.2=some (su (t+1))) :
  Calls Tryz.prog 12 #[.agg #[.slice A0 ps.length c0,.slice A1 n1 c1,.slice A2 ss.length c2]] w fun e w'=>e = .returned (.agg (rA (su n1)))/\Below w.heap.size w w':=by
 obtain⟨n0,hn0⟩:∃ n,ps.length=n:=⟨_,rfl⟩
 obtain⟨n2,hn2⟩:∃ n,ss.length=n:=⟨_,rfl⟩
 have HL:=qh (show n0<=400/\n1<=900/\n2<=1300 from ⟨hn0 ▸ hM.l0,hM.l1,hn2 ▸ hM.l2⟩);have H0:=qh hn0;have HA:=qh hA;have HM:=qh hM;have HC:=qh hC;have HS:=qh hS;have WV:=qh h0;have kF:=qh ((MB.new w A0 A1 A2 n0 c0 n1 c1 n2 c2).step ((Below.refl _ _).alloc (Nat.le_refl _) (.cells #[.bool false,.string ⟨#[]⟩,.string ⟨#[]⟩] 40)));have dY:=qa (jE (w.alloc (.cells #[.slice A0 n0 c0,.slice A1 n1 c1,.slice A2 n2 c2] 26)) (.cells #[.bool false,.string ⟨#[]⟩,.string ⟨#[]⟩] 40));rw[hn0,hn2];clear hA hM hC hS h0 hn0 hn2;obtain⟨g,hg⟩:∃ g,w.heap.size=g:=⟨_,rfl⟩
 have HG:=qh hg;rw[hg]at kF
 have e0:(w.alloc (.cells #[.slice A0 n0 c0,.slice A1 n1 c1,.slice A2 n2 c2] 26)).heap.size=g+1:=by simp[go_sem,hg]
 rw[e0]at dY
 clear e0;go_enter Tryz.func12,Tryz.ntmps12;go_upto_region 1 with fail
 generalize ((w.alloc (.cells #[.slice A0 n0 c0,.slice A1 n1 c1,.slice A2 n2 c2] 26)).alloc (.cells #[.bool false,.string ⟨#[]⟩,.string ⟨#[]⟩] 40))=w2 at kF dY ⊢;have LV:=qh (w_.calls 0 false ⟨#[]⟩ ⟨#[1]⟩ w2 ar7);go_wp2_with (refine LV.out.mono ?_;rintro e w3 ⟨rfl,hb⟩;refine Stop.out ?_)
 refine⟨?_⟩
 have HI:=qh (show AJ g w3.heap.size w A0 A1 A2 n0 c0 n1 c1 n2 c2 (su 0) (w3.alloc (.cells #[.bool false,.string ⟨#[]⟩,.string ⟨#[1]⟩] 40)) from
  ⟨(kF.out.step hb).step ((Below.refl _ _).alloc (Nat.le_refl _) _),⟨dJ (gP dY.out hb) _⟩,⟨by rw[WV.out];exact jE _ _⟩,Nat.lt_of_lt_of_le (oh dY.out) hb.size⟩)
 clear hb kF dY LV hg;go_upto_region 2 with fail
 generalize (w3.alloc (.cells #[.bool false,.string ⟨#[]⟩,.string ⟨#[1]⟩] 40))=w4 at HI ⊢;generalize w3.heap.size=s at HI ⊢;go_wp2
 go_loopw [4] (fun v wr=>∃ (T:Nat),T<=n1/\v = .int .i64 (T:Int)/\Hid (AJ g s w A0 A1 A2 n0 c0 n1 c1 n2 c2 (su T) wr)) (fun v _=>n1-(intOf v).toNat)
 case atStart=>exact⟨0,Nat.zero_le _,rfl,HI⟩
 case round =>
  obtain⟨T,ht,rfl,hI⟩:=hrel;clear HI;by_cases htn:T<n1
  ·have e1:decide ((T:Int)<(n1:Int))=true:=decide_eq_true qo
   have HT:=qh htn;have gU:=HM.out.inr (j:=3*T) qo;have eE:=HM.out.inr (j:=3*T+1) qo;have lZ:=HM.out.inr (j:=3*T+2) qo;rw[H0.out]at gU eE lZ
   have AM:=HS.out T htn;obtain⟨na,iR⟩:∃ x:Nat,zs.getD (3*T) 0=x:=⟨_,(Int.toNat_of_nonneg gU.1).symm⟩
   obtain⟨nb,iT⟩:∃ x:Nat,zs.getD (3*T+1) 0=x:=⟨_,(Int.toNat_of_nonneg eE.1).symm⟩
   obtain⟨nc,lX⟩:∃ x:Nat,zs.getD (3*T+2) 0=x:=⟨_,(Int.toNat_of_nonneg lZ.1).symm⟩
   rw[iR,iT,lX,Int.toNat_natCast,Int.toNat_natCast,Int.toNat_natCast]at AM
   rw[iR]at gU
   rw[iT]at eE
   rw[lX]at lZ
   have LK:=qh iR;have LL:=qh iT;have LJ:=qh lX;have dR:=qh (show na<n0/\nb<n0/\nc<n0 by omega);have xW:=qh (HC.out na nb nc (by rw[H0.out];exact dR.out.1) (by rw[H0.out];exact dR.out.2.1) (by rw[H0.out];exact dR.out.2.2));obtain⟨av,wP⟩:∃ x,ar na nb nc=x:=⟨_,rfl⟩
   obtain⟨sn,x_⟩:∃ x,su (T+1)=x:=⟨_,rfl⟩
   obtain⟨so,wW⟩:∃ x,su T=x:=⟨_,rfl⟩
   rw[wP]at xW
   rw[wP,x_,wW]at AM
   have WW:=qh x_;have Al:=qh AM;rw[wW]at hI
   have gA:=qh (HA.out.below hI.out.box.below HG.out.symm);obtain⟨ad,rfl,-⟩:=gA.out.t (by have:=HT.out;omega);obtain⟨y0,y1,y2⟩:=XX gA.out.t HT.out;rw[LK.out]at y0
   rw[LL.out]at y1
   rw[LJ.out]at y2
   have LN:((T:Int)<(n1:Int))=True:=eq_true (by have:=HT.out;omega);have LP:(T<n1)=True:=eq_true HT.out;have LQ:((0:Int)<=(T:Int))=True:=eq_true qo;have hw1:wrap64 ((T:Int)+1)=((T+1:Nat):Int):=kB (by have:=HL.out;have:=HT.out;omega);clear iR iT lX gU eE lZ wP x_ wW AM htn gA;have q0:=hI.out.box.b0;have q1:=hI.out.box.b1;go_upto_region 6 with fail
   clear q0 q1 y0 y1 y2 e1 LN LP LQ;have gT:=(Below.refl wr.heap.size wr).alloc (Nat.le_refl _) (.cells #[.int .i64 (na:Int),.int .i64 (nb:Int),.int .i64 (nc:Int)] 69);have jK:=qh (hI.out.step gT);have mF:=qa (jE wr (.cells #[.int .i64 (na:Int),.int .i64 (nb:Int),.int .i64 (nc:Int)] 69));clear hI gT;generalize (wr.alloc (.cells #[.int .i64 (na:Int),.int .i64 (nb:Int),.int .i64 (nc:Int)] 69))=w2 at jK mF ⊢;generalize wr.heap.size=vb at mF ⊢;have HP:=qh (HA.out.below jK.out.box.below HG.out.symm).p;rw[H0.out]at HP
   have q0:=jK.out.box.b0;obtain⟨LY,rfl,-⟩:=oW HP.out (na:Int) qo (by have:=dR.out;omega);obtain⟨v0,v1,v2,_,_,_⟩:=z3 mF;have cQ:SA w2 ⟨g,0,none⟩ ⟨vb,0,none⟩ ⟨vb,1,none⟩ ⟨vb,2,none⟩ LY n0 c0 na nb nc (au ps na) (au ps nb) (au ps nc) w2:=⟨q0,v0,v1,v2,tD HP.out na dR.out.1,tD HP.out nb dR.out.2.1,tD HP.out nc dR.out.2.2,Below.refl _ _⟩
   have x2:((nb:Int)<(n0:Int))=True:=eq_true (by have:=dR.out;omega);have x3:((nc:Int)<(n0:Int))=True:=eq_true (by have:=dR.out;omega);have x4:((na:Int)<(n0:Int))=True:=eq_true (by have:=dR.out;omega);have u2:(nb<n0)=True:=eq_true dR.out.2.1;have u3:(nc<n0)=True:=eq_true dR.out.2.2;have u4:(na<n0)=True:=eq_true dR.out.1;clear q0 v0 v1 v2 HP;have Cy:=qh (fun W=>pW.calls K _ _ _ _ _ _ _ _ _ _ _ _ _ _ _ _ _ _ av.1 av.2.1 av.2.2 W xW.out);have LZ:=qh (fun W=>gG.calls K _ _ _ _ _ _ sn.1 sn.2.1 sn.2.2 W Al.out);have P9:=qh (And.intro cQ.2.2.2.2.1 (And.intro cQ.2.2.2.2.2.1 cQ.2.2.2.2.2.2.1));obtain⟨D0,D1,D2,D3,D4,D5⟩:=P9.out.1;obtain⟨P0,P1,P2,P3,P4,P5⟩:=P9.out.2.1;obtain⟨C0,C1,C2,C3,C4,C5⟩:=P9.out.2.2;obtain⟨B0,B1,B2,_,_,_⟩:=z3 jK.out.bs;have WX:=gQ cQ.1;have v0':=gQ cQ.2.1;have v1':=gQ cQ.2.2.1;have v2':=gQ cQ.2.2.2.1;have d0':=gQ D0;have d1':=gQ D1;have d2':=gQ D2;have d3':=gQ D3;have d4':=gQ D4;have d5':=gQ D5;have WY:=gQ P0;have p1':=gQ P1;have p2':=gQ P2;have p3':=gQ P3;have p4':=gQ P4;have p5':=gQ P5;have c0':=gQ C0;have c1':=gQ C1;have c2':=gQ C2;have c3':=gQ C3;have c4':=gQ C4;have c5':=gQ C5;have b0':=gQ B0;have b1':=gQ B1;have b2':=gQ B2;clear cQ P9 D0 D1 D2 D3 D4 D5 P0 P1 P2 P3 P4 P5 C0 C1 C2 C3 C4 C5 B0 B1 B2;refine agM w2 21 qk qk ?_;simp only[List.take_succ_cons,List.take_zero,List.drop_succ_cons,List.drop_zero];repeat(go_big_quiet_step ((first|(go_at_call 43;with_reducible exact SD (fun W _=>Cy.out W) _)|(go_at_call 42;with_reducible exact SD (fun W _=>LZ.out W) _))))
   refine wpQuiet_nil ?_;intro w5 hw';have PR:Below w2.heap.size w2 w5:=by obtain⟨q,rfl⟩:=hw';exact q.h
   have wX:=qh (jK.out.step PR);clear hw' PR jK mF Cy LZ xW Al WX v0' v1' v2' x2 x3 x4 u2 u3 u4 d0' d1' d2' d3' d4' d5' WY p1' p2' p3' p4' p5' c0' c1' c2' c3' c4' c5' b0' b1' b2';obtain⟨b0,b1,b2,b3,b4,b5⟩:=z3 wX.out.bs;go_wp2
   rw[hw1];exact⟨⟨T+1,HT.out,rfl,qh (by rw[WW.out];exact wX.out.set sn)⟩,by have:=HT.out;show n1-(((T+1:Nat):Int)).toNat<n1-((T:Nat):Int).toNat;omega⟩
  ·have e1:decide ((T:Int)<(n1:Int))=false:=decide_eq_false qo
   obtain rfl:T=n1:=by omega
   have hr3:=ab4 hI.out.box.below hI.out.br (Nat.lt_succ_self g) (.bool (su T).1) (.string (su T).2.1) (.string (su T).2.2);obtain⟨a0,a1,a2,a3,a4,a5⟩:=z3 hI.out.br;obtain⟨b0,b1,b2,b3,b4,b5⟩:=z3 hI.out.bs;have q1:=hI.out.box.b1;go_wp2
   refine bodyPost_ret (results_cell_row rfl _ _ (g+1) 40 (rA (su T)) (0,0) _ rfl hr3.1 Tryz.underlying40 rfl qk) rfl ?_;exact⟨rfl,by rw[HG.out];exact hr3.2⟩
structure LX (h:Nat) (ps:PS) (zs:List Int) (n1:Nat) (ss:SS) (A0 A1 A2:Option Addr) (c0 c1 c2 n0 n2:Nat) (w W:World):Prop where
 a:ow W A0 A1 A2 c0 c2 ps zs n1 ss
 b:aO (W.heap[h]?=some (.cells #[.slice A0 n0 c0,.slice A1 n1 c1,.slice A2 n2 c2] 26 (0,0)))
 below:Below h w W
theorem LX.step {h:Nat} {ps:PS} {zs:List Int} {n1:Nat} {ss:SS} {A0 A1 A2:Option Addr} {c0 c1 c2 n0 n2:Nat} {w W W':World} (hl:LX h ps zs n1 ss A0 A1 A2 c0 c1 c2 n0 n2 w W) (hb:Below W.heap.size W W'):LX h ps zs n1 ss A0 A1 A2 c0 c1 c2 n0 n2 w W':=⟨hl.a.below hb rfl,⟨gP hl.b.out hb⟩,hl.below.trans (hb.mono (Nat.le_of_lt (oh hl.b.out)))⟩
theorem ar_ (d:Nat) (w:World) (a b c e:Int):(Op.equalIn (d+2) 45 (.agg #[Value.int .i64 a,Value.int .i64 b]) (.agg #[Value.int .i64 c,Value.int .i64 e])).run Tryz.prog w = .ok (a==c&&b==e) w:=by
 obtain⟨i,hi⟩:=RJ;rw[run_equalIn_array w (d+1) _ _ Tryz.underlying45 hi,IW,show List.range 2=[0,1] from rfl];have p0:=run_part_plain w sI (show(#[Value.int .i64 a,Value.int .i64 b])[0]?=some (.int .i64 a) from rfl);have q0:=run_part_plain w sI (show(#[Value.int .i64 c,Value.int .i64 e])[0]?=some (.int .i64 c) from rfl);have r0:=run_equalIn_int w d 3 .i64 .i64 a c Tryz.underlying3;have p1:=run_part_plain w sI (show(#[Value.int .i64 a,Value.int .i64 b])[1]?=some (.int .i64 b) from rfl);have q1:=run_part_plain w sI (show(#[Value.int .i64 c,Value.int .i64 e])[1]?=some (.int .i64 e) from rfl);have r1:=run_equalIn_int w d 3 .i64 .i64 b e Tryz.underlying3;simp only[Op.eqItems,Sem.run_bind,Nat.zero_mul,Nat.mul_one,p0,q0,r0,p1,q1,r1,Result.andThen_ok,Sem.run_pure];generalize (a==c)=b0 at *;generalize (b==e)=b1 at *;cases b0 <;> cases b1 <;> simp[Op.eqItems,p0,q0,r0,p1,q1,r1,Result.andThen_ok]
theorem aay {w:World} {base:Nat} {A:Option Addr} {n c:Nat} {L:List (Nat × Nat)} (h:w.ownsRow base 45 2 (.slice A n c) n (fQ (eZ L))) (hl:L.length=n) {i:Nat} (hi:i<n):∃ ad,A=some ad/\w.cell? (ad.add (i*2))=some (.int .i64 ((eZ L).getD (i*2) 0))/\w.cell? ⟨(ad.add (i*2)).block,(ad.add (i*2)).off+1,none⟩=some (.int .i64 ((eZ L).getD (i*2+1) 0)):=by
 obtain⟨A',c',he,-,-,hc⟩:=S9 h;injection he with e1 e2 e3
 subst e1;obtain⟨ad,rfl,hcc⟩:=hc qo;have hz:=NP L;unfold fQ at hz hcc;rw[List.length_map]at hz
 have hat:∀ j,j<L.length*2->w.cell? (ad.add j)=some (.int .i64 ((eZ L).getD j 0)):=fun j hj=>hcc j _ (by rw[List.getElem?_map,List.getD_eq_getElem?_getD,List.getElem?_eq_getElem qo];rfl);have y0:=hat (i*2) qo;have y1:=hat (i*2+1) qo;rw[uL _ _ _ qd]at y1
 exact⟨ad,rfl,y0,y1⟩
theorem ap5 {zs:List Int} {n1 T k:Nat} (h:sq n1 (T:Int) (k:Int)=true):uW zs n1 T k=(fT (bK zs (zs.getD (3*T+nx k) 0) (zs.getD (3*T+k) 0) (3*n1)),fK (bK zs (zs.getD (3*T+nx k) 0) (zs.getD (3*T+k) 0) (3*n1)),0):=by
 unfold uW;rw[if_pos h];simp only[Int.toNat_natCast]
attribute [local go_sem high] ar_
theorem ah1 (A0 A1 A2:Option Addr) (c0 n1 c1 c2:Nat) (ps:PS) (zs:List Int) (ss:SS) (w:World) (hA:ow w A0 A1 A2 c0 c2 ps zs n1 ss) (t k:Int) :
  Calls Tryz.prog 3 #[.agg #[.slice A0 ps.length c0,.slice A1 n1 c1,.slice A2 ss.length c2],.int .i64 t,.int .i64 k] w fun e w'=>e = .returned (.bool true)/\Below w.heap.size w w':=by
 obtain⟨n0,hn0⟩:∃ n,ps.length=n:=⟨_,rfl⟩
 obtain⟨n2,hn2⟩:∃ n,ss.length=n:=⟨_,rfl⟩
 have gU:=qh (show LX w.heap.size ps zs n1 ss A0 A1 A2 c0 c1 c2 n0 n2 w (w.alloc (.cells #[.slice A0 n0 c0,.slice A1 n1 c1,.slice A2 n2 c2] 26)) from ⟨hA.below ((Below.refl _ _).alloc (Nat.le_refl _) _) rfl,⟨jE _ _⟩,(Below.refl _ _).alloc (Nat.le_refl _) _⟩);have H0:=qh hn0;have H2:=qh hn2;have Qb:=qh ams;rw[hn0,hn2];clear hA hn0 hn2;obtain⟨g,hg⟩:∃ g,w.heap.size=g:=⟨_,rfl⟩
 have HG:=qh hg;rw[hg]at gU
 go_enter Tryz.func3,Tryz.ntmps3;go_upto_region 1 with fail
 generalize (w.alloc (.cells #[.slice A0 n0 c0,.slice A1 n1 c1,.slice A2 n2 c2] 26))=w1 at gU ⊢;have Xc:=qh (aly A0 A1 A2 c0 n1 c1 c2 ps ss w1 gU.out.a.p);rw[H0.out,H2.out]at Xc
 obtain⟨q0,q1,q2,q3,q4,q5⟩:=z3 gU.out.b;go_wp2_with (refine Xc.out.mono ?_;rintro e w2 ⟨b,rfl,hsm,hb⟩;refine Stop.out ?_)
 refine⟨?_⟩;have eE:=qh (gU.out.step hb);clear hb gU q0 q1 q2 q3 q4 q5 Xc;cases b with
 | false =>
  have HC:=qh (Qb.out w2);clear hsm;go_wp2_with (refine HC.out.mono ?_;rintro e w3 ⟨rfl,hb⟩;refine Stop.out ?_)
  refine⟨?_⟩;have bX:=qh (eE.out.step hb);clear hb;go_wp2_with (first|(go_ret;exact⟨rfl,by rw[HG.out];exact bX.out.below⟩)|fail)
 | true =>
  have HS:=qh (hsm rfl);clear hsm;have hl:=HS.out;unfold Tl at hl;obtain⟨ask,afa,hok⟩:=ahT hl.2.2.2 qo 4000 qo;have EO:=qh (ajd A0 A1 A2 c0 n1 c1 c2 ps zs ss w2 eE.out.a 4000 ask afa (mE ps) (fun e=>orO (hok e) 4000 qd) (yf ss) (aln ss 4000 qo qo));rw[H0.out,H2.out]at EO
  have Ib:=qh hok;have HL:=qh (show ps.length<=30/\n1<=45/\ss.length<=45 by omega);clear hl afa hok HS;obtain⟨q0,q1,q2,q3,q4,q5⟩:=z3 eE.out.b;go_wp2_with (refine EO.out.mono ?_;rintro e w3 ⟨r,rfl,hr,hb⟩;refine Stop.out ?_)
  refine⟨?_⟩;have lZ:=qh (eE.out.step hb);have HR:=qh hr;clear hb eE EO hr q0 q1 q2 q3 q4 q5;by_cases h0:r=0
  ·subst h0
   have OY:=HR.out.1 rfl;have Xd:=Ib.out OY.a;have hM0:=OY.a;subst hM0;have HP:=qh (amq OY);have qG:=qh Xd;have vu:=qh (Mr Xd (by have:=HL.out;omega) 4000 (by have:=HL.out;omega));clear OY Xd HR Ib;have HSO:=qh (fun m (hm:m<=n1)=>ahZ qG.out HP.out HL.out.1 HL.out.2.1 m hm);obtain⟨R,hR⟩:∃ x,pq (Cl ps zs n1)=x:=⟨_,rfl⟩
   have Xe:=qh (fun W (hm:LX g ps zs n1 ss A0 A1 A2 c0 c1 c2 n0 n2 w W)=>amu A0 A1 A2 c0 n1 c1 c2 ps zs ss W hm.a 4000 vu.out (mE ps) (Iu qG.out 4000 qd) HP.out (fun i j k=>pq (uK (au ps i) (au ps j) (au ps k))) (fun i j k hi hj hk=>ap2 3970 (qG.out i hi) (qG.out j hj) (qG.out k hk)) (fun m=>pq (Cl ps zs m)) ae'
    (fun m hm=>by obtain⟨⟨i0,i1,i2⟩,-⟩:=Tn HP.out hm;exact ar9 3998 (HSO.out m qo) (RQ (qG.out _ i0) (qG.out _ i1) (qG.out _ i2))))
   have vo:=qh (fun W (hm:LX g ps zs n1 ss A0 A1 A2 c0 c1 c2 n0 n2 w W)=>amv A0 A1 A2 c0 n1 c1 c2 ps zs ss W hm.a 4000 (mE ps) HP.out (fun i j k=>pq (uK (au ps i) (au ps j) (au ps k))) (fun i j k hi hj hk=>ap3 3999 (qG.out i hi) (qG.out j hj) (qG.out k hk)) (fun m=>pq (Cl ps zs m)) ae'
    (fun m hm=>by obtain⟨⟨i0,i1,i2⟩,-⟩:=Tn HP.out hm;exact ap4 3999 (HSO.out m qo) (RQ (qG.out _ i0) (qG.out _ i1) (qG.out _ i2))))
   rw[H0.out,H2.out,hR]at Xe vo
   clear hR;have L6:=qh (Yo A0 A1 A2 c0 n1 c1 c2 ps zs ss w3 lZ.out.a 4000 vu.out (mE ps) (Iu qG.out 4000 qd) HP.out t k);rw[H0.out,H2.out]at L6
   obtain⟨O,hO⟩:∃ x,uW zs n1 t k=x:=⟨_,rfl⟩
   obtain⟨u,j,er⟩:=O;rw[hO]at L6
   dsimp only at L6;have HO:=qh hO;clear hO;obtain⟨q0,q1,q2,q3,q4,q5⟩:=z3 lZ.out.b;go_wp2_with (refine L6.out.mono ?_;rintro e w4 ⟨rfl,hb⟩;refine Stop.out ?_)
   refine⟨?_⟩;have Qc:=qh (lZ.out.step hb);clear hb lZ L6 q0 q1 q2 q3 q4 q5;have Qd:=qh (alI A0 A1 A2 c0 n1 c1 c2 ps zs ss w4 Qc.out.a 4000 vu.out (mE ps) (Iu qG.out 4000 qd) HP.out (NM ps));rw[H0.out,H2.out]at Qd
   obtain⟨L,hL⟩:∃ x,nU (gV zs n1) n0 n0=x:=⟨_,rfl⟩
   rw[hL]at Qd
   have Pp:=qh hL;clear hL;obtain⟨q0,q1,q2,q3,q4,q5⟩:=z3 Qc.out.b;go_wp2_with (refine Qd.out.mono ?_;rintro e w5 ⟨E,n,ce,rfl,hown,hlen,hb⟩;refine Stop.out ?_)
   refine⟨?_⟩;have qL:=qh (Qc.out.step hb);have LG:=qh (xe hown (Nat.zero_le _));have Qe:=qh hlen;clear hb hown hlen Qc Qd q0 q1 q2 q3 q4 q5;have Iw:=qh (Xe.out w5 qL.out);obtain⟨q0,q1,q2,q3,q4,q5⟩:=z3 qL.out.b;go_wp2_with (refine Iw.out.mono ?_;rintro e w6 ⟨rfl,hb⟩;refine Stop.out ?_)
   refine⟨?_⟩;have EW:=qh ((qL.out.step hb).step ((Below.refl _ _).alloc (Nat.le_refl _) (.cells (rA R) 40)));have Fj:=qh (td (td LG.out hb) ((Below.refl _ _).alloc (Nat.le_refl _) (.cells (rA R) 40)));have Qf:=qa (jE w6 (.cells (rA R) 40));clear hb qL LG Iw Xe q0 q1 q2 q3 q4 q5;go_upto_region 6 with fail
   generalize (w6.alloc (.cells (rA R) 40))=w7 at EW Fj Qf ⊢;generalize w6.heap.size=o at Qf ⊢;have afb:=qh (fun W (hW:Below w7.heap.size w7 W)=>vo.out W (EW.out.step hW));obtain⟨q0,q1,q2,q3,q4,q5⟩:=z3 EW.out.b;obtain⟨p0,p1,p2,p3,p4,p5⟩:=z3 Qf;have WX:=gQ q0;have q1':=gQ q1;have q2':=gQ q2;have WY:=gQ p0;have p1':=gQ p1;have p2':=gQ p2;clear q0 q1 q2 q3 q4 q5 p0 p1 p2 p3 p4 p5 vo;refine Rk w7 qk qk ?_;repeat(go_big_quiet_step ((go_at_call 12;with_reducible exact SD afb.out _)))
   refine wpQuiet_nil ?_;intro w8 hw';have ET:Below w7.heap.size w7 w8:=by obtain⟨q,rfl⟩:=hw';exact q.h
   have Qg:=qh (EW.out.step ET);have HW8:=qh (td Fj.out ET);clear hw' ET EW Fj Qf afb WX q1' q2' WY p1' p2';have Xf:=qh (alE A0 A1 A2 n0 c0 n1 c1 n2 c2 zs w8 Qg.out.a.t (by have:=HL.out;have:=H0.out;omega) (by have:=HL.out;omega));rw[Pp.out]at Xf
   obtain⟨q0,q1,q2,q3,q4,q5⟩:=z3 Qg.out.b;go_wp2_with (refine Xf.out.mono ?_;rintro e w9 ⟨F,n',cf,rfl,hown,hlen,hb⟩;refine Stop.out ?_)
   refine⟨?_⟩;obtain rfl:n'=n:=by have:=Qe.out;omega
   have HM9:=qh (Qg.out.step hb);have PV:=qh (td HW8.out hb);have HV9:=qh (xe hown (Nat.zero_le _));clear hb hown hlen Qg HW8 Xf q0 q1 q2 q3 q4 q5;go_wp2
   go_loopw [15] (fun v wr=>∃ (i:Nat),i<=n'/\v = .int .i64 (i:Int)/\Hid (LX g ps zs n1 ss A0 A1 A2 c0 c1 c2 n0 n2 w wr/\wr.ownsRow 0 45 2 (.slice E n' ce) n' (fQ (eZ L))/\wr.ownsRow 0 45 2 (.slice F n' cf) n' (fQ (eZ L)))) (fun v _=>n'-(intOf v).toNat)
   case atStart=>exact⟨0,Nat.zero_le _,rfl,qh ⟨HM9.out,PV.out,HV9.out⟩⟩
   case round =>
    obtain⟨i,hi,rfl,hI⟩:=hrel;clear HM9 PV HV9;by_cases hin:i<n'
    ·have h1:decide ((i:Int)<(n':Int))=true:=decide_eq_true qo
     have h2:((i:Int)<(n':Int))=True:=eq_true qo;have h3:(i<n')=True:=eq_true hin;have h4:((0:Int)<=(i:Int))=True:=eq_true qo;obtain⟨ad,rfl,y0,y1⟩:=aay hI.out.2.1 Qe.out hin;obtain⟨bd,rfl,x0,x1⟩:=aay hI.out.2.2 Qe.out hin;have hw1:wrap64 ((i:Int)+1)=((i+1:Nat):Int):=kB (by
      have h5:=Qe.out;have h6:=RN (gV zs n1) n0 n0;rw[Pp.out]at h6
      have h7:=HL.out;have h8:=H0.out;have h9:n0*n0<=30*30:=Nat.mul_le_mul qo qo;omega)
     have HT:=qh hin;clear hin hi;go_upto_region 14 with fail
     have y0':=gQ y0;have y1':=gQ y1;have x0':=gQ x0;have x1':=gQ x1;clear y0 y1 x0 x1;refine Rk wr qk qk ?_;repeat(go_big_quiet_step (fail))
     refine wpQuiet_nil ?_;intro iC hw';have OZ:Below wr.heap.size wr iC:=by obtain⟨q,rfl⟩:=hw';exact q.h
     have HI:=qh (And.intro (hI.out.1.step OZ) (And.intro (td hI.out.2.1 OZ) (td hI.out.2.2 OZ)));clear hw' OZ hI y0' y1' x0' x1';go_wp2
     rw[hw1];exact⟨⟨i+1,HT.out,rfl,HI⟩,by have:=HT.out;show n'-(((i+1:Nat):Int)).toNat<n'-((i:Nat):Int).toNat;omega⟩
    ·have h1:decide ((i:Int)<(n':Int))=false:=decide_eq_false qo
     have h2:(i<n')=False:=eq_false hin;have KM:=qh hI.out.1;have Iz:=qh (aqK A0 A1 A2 n0 c0 n1 c1 n2 c2 wr t k);clear hin hi hI;obtain⟨q0,q1,q2,q3,q4,q5⟩:=z3 KM.out.b;cases hB:sq n1 t k with
     | false =>
      rw[hB]at Iz
      have Xg:=HO.out.symm.trans (show uW zs n1 t k=(0,0,1) from if_neg (by rw[hB];decide));injection Xg with e1 e2
      injection e2 with e2 e3
      subst e1 e2 e3;clear hB;go_wp2_with (refine Iz.out.mono ?_;rintro e nk ⟨rfl,hb⟩;refine Stop.out ?_)
      refine⟨?_⟩;have Hv:=qh (KM.out.step hb);have HC:=qh (Qb.out nk);clear hb KM Iz q0 q1 q2 q3 q4 q5;go_wp2_with (refine HC.out.mono ?_;rintro e iH ⟨rfl,hb⟩;refine Stop.out ?_)
      refine⟨?_⟩;have VH:=qh (Hv.out.step hb);clear hb;go_wp2_with (first|(go_ret;exact⟨rfl,by rw[HG.out];exact VH.out.below⟩)|fail)
     | true =>
      rw[hB]at Iz
      have hR:=hB;unfold sq at hR;simp only[Bool.and_eq_true,decide_eq_true_eq]at hR;obtain⟨⟨⟨a1,a2⟩,a3⟩,a4⟩:=hR;obtain⟨T,rfl⟩:=Int.eq_ofNat_of_zero_le a1;obtain⟨k,rfl⟩:=Int.eq_ofNat_of_zero_le a3;have Xg:=HO.out.symm.trans (ap5 hB);injection Xg with e1 e2
      injection e2 with e2 e3
      have HX:=qh (fun W (hm:LX g ps zs n1 ss A0 A1 A2 c0 c1 c2 n0 n2 w W)=>ahJ A0 A1 A2 n0 c0 n1 c1 n2 c2 zs W hm.a.t T k qo qo (by have:=HL.out;omega));rw[<- e1,<- e2]at HX
      subst e3;clear hB a1 a2 a3 a4 e1 e2;go_wp2_with (refine Iz.out.mono ?_;rintro e nk ⟨rfl,hb⟩;refine Stop.out ?_)
      refine⟨?_⟩;have Hv:=qh (KM.out.step hb);clear hb KM Iz q0 q1 q2 q3 q4 q5;have afc:=qh (HX.out nk Hv.out);obtain⟨q0,q1,q2,q3,q4,q5⟩:=z3 Hv.out.b;go_wp2_with (refine afc.out.mono ?_;rintro e iH ⟨rfl,hb⟩;refine Stop.out ?_)
      refine⟨?_⟩;have VH:=qh (Hv.out.step hb);have HC:=qh (Qb.out iH);clear hb Hv HX afc q0 q1 q2 q3 q4 q5;go_wp2_with (refine HC.out.mono ?_;rintro e oL ⟨rfl,hb⟩;refine Stop.out ?_)
      refine⟨?_⟩;have ar':=qh (VH.out.step hb);clear hb;go_wp2_with (first|(go_ret;exact⟨rfl,by rw[HG.out];exact ar'.out.below⟩)|fail)
  ·have hne:(r != 0)=true:=bne_iff_ne.mpr h0
   have HC:=qh (Qb.out w3);clear h0;go_wp2_with (refine HC.out.mono ?_;rintro e w4 ⟨rfl,hb⟩;refine Stop.out ?_)
   refine⟨?_⟩;have nZ:=qh (lZ.out.step hb);clear hb;go_wp2_with (first|(go_ret;exact⟨rfl,by rw[HG.out];exact nZ.out.below⟩)|fail)
end Go.Proofs.YtcmepkhjggpmeaaGreat
