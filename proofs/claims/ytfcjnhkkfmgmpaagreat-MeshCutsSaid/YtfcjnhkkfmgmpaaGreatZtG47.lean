import Derived.Test.YtfcjnhkkfmgmpaaGreatZtG46
set_option linter.all false
set_option maxRecDepth 100000
set_option maxHeartbeats 8000000
namespace Go.Proofs.YtfcjnhkkfmgmpaaGreat
open Go.RowKit aS Go.Proofs.aA.R Go.Proofs.aA.Z Go.Proofs.aB.aZ
def bv (n:Nat):ByteArray:=if n=0 then ⟨#[]⟩ else ⟨#[UInt8.ofNat n]⟩
def Em (x y:Nat):bg:=⟨⟨⟨false,bv x⟩,bv 1⟩,⟨⟨false,bv y⟩,bv 1⟩⟩
def ps2:PS:=[Em 0 0,Em 2 0,Em 2 2,Em 0 2]
def zs2:List Int:=[0,1,2,0,2,3]
theorem asJ:wX.f 0 0=some (false,⟨#[]⟩,⟨#[1]⟩,false,⟨#[]⟩,⟨#[1]⟩):=by decide +kernel
theorem asK:wX.f 2 0=some (false,⟨#[2]⟩,⟨#[1]⟩,false,⟨#[]⟩,⟨#[1]⟩):=by decide +kernel
theorem asL:wX.f 2 2=some (false,⟨#[2]⟩,⟨#[1]⟩,false,⟨#[2]⟩,⟨#[1]⟩):=by decide +kernel
theorem asM:wX.f 0 2=some (false,⟨#[]⟩,⟨#[1]⟩,false,⟨#[2]⟩,⟨#[1]⟩):=by decide +kernel
structure TW (g:Nat) (w W:World):Prop where
 below:Below g w W
 br:aO (W.heap[g]?=some (.cells fI 26 (0,0)))
theorem TW.step {g:Nat} {w W W':World} (h:TW g w W) (hb:Below W.heap.size W W'):TW g w W':=⟨h.below.trans (hb.mono (Nat.le_of_lt (gm h.br.out))),⟨eW h.br.out hb⟩⟩
theorem asN (w:World) :
  Calls Tryz.prog 23 #[] w fun e w'=>∃ v0 v1,e = .returned (.agg #[v0,v1,.slice none 0 0])/\OM w' w.heap.size v0 v1 (.slice none 0 0) ps2 zs2 2 []/\Below w.heap.size w w':=by
 have HX:=qh (show TW w.heap.size w (w.alloc (.cells fI 26)) from ⟨(Below.refl _ _).alloc (Nat.le_refl _) _,⟨iw _ _⟩⟩);have Ac:=qh (fun W=>wX.calls 0 0 _ _ _ _ _ _ W asJ);have yh:=qh (fun W=>wX.calls 2 0 _ _ _ _ _ _ W asK);have tD:=qh (fun W=>wX.calls 2 2 _ _ _ _ _ _ W asL);have oM:=qh (fun W=>wX.calls 0 2 _ _ _ _ _ _ W asM);obtain⟨g,hg⟩:∃ g,w.heap.size=g:=⟨_,rfl⟩
 have HG:=qh hg;rw[hg]at HX
 go_enter Tryz.func23,Tryz.ntmps23
 go_wp2_with (first
  | (with_reducible refine(Ac.out _).mono ?_;rintro e w1 ⟨rfl,hb⟩;have j7:=qh (HX.out.step hb);clear hb)
  | (with_reducible refine(yh.out _).mono ?_;rintro e w2 ⟨rfl,hb⟩;have xR:=qh (j7.out.step hb);clear hb)
  | (with_reducible refine(tD.out _).mono ?_;rintro e w3 ⟨rfl,hb⟩;have HX3:=qh (xR.out.step hb);clear hb)
  | (with_reducible refine(oM.out _).mono ?_;rintro e w4 ⟨rfl,hb⟩;have SU:=qh (HX3.out.step hb);clear hb;refine Stop.out ?_)
  | fail)
 refine⟨?_⟩;obtain⟨b0,b1,b2,b3,b4,b5⟩:=z3 SU.out.br;have hlt:=gm SU.out.br.out;have n1:¬ g=w4.heap.size:=by omega
 have n2:¬ w4.heap.size=g:=by omega
 have n3:¬ g=w4.heap.size+1:=by omega
 have n4:¬ w4.heap.size+1=g:=by omega
 have n5:(g<w4.heap.size)=True:=eq_true hlt;have n6:(g<w4.heap.size+1)=True:=eq_true qo;have R8:(((w4.setCell ⟨g,0,none⟩ (.slice (some ⟨w4.heap.size,0,none⟩) 4 4)).setCell ⟨g,1,none⟩ (.slice (some ⟨w4.heap.size+1,0,none⟩) 2 2)).setCell ⟨g,2,none⟩ (.slice none 0 0)).heap.size=w4.heap.size:=by simp
 have lK:(((w4.setCell ⟨g,0,none⟩ (.slice (some ⟨w4.heap.size,0,none⟩) 4 4)).setCell ⟨g,1,none⟩ (.slice (some ⟨w4.heap.size+1,0,none⟩) 2 2)).setCell ⟨g,2,none⟩ (.slice none 0 0)).heap[g]?=some (.cells #[.slice (some ⟨w4.heap.size,0,none⟩) 4 4,.slice (some ⟨w4.heap.size+1,0,none⟩) 2 2,.slice none 0 0] 26 (0,0)):=uK (uK (uK SU.out.br.out 0 _) 1 _) 2 _;have cQ:Below g w (((w4.setCell ⟨g,0,none⟩ (.slice (some ⟨w4.heap.size,0,none⟩) 4 4)).setCell ⟨g,1,none⟩ (.slice (some ⟨w4.heap.size+1,0,none⟩) 2 2)).setCell ⟨g,2,none⟩ (.slice none 0 0)):=((SU.out.below.setCell (p:=⟨g,0,none⟩) (Nat.le_refl _) _).setCell (p:=⟨g,1,none⟩) (Nat.le_refl _) _).setCell (p:=⟨g,2,none⟩) (Nat.le_refl _) _;have hp6:(((((w4.setCell ⟨g,0,none⟩ (.slice (some ⟨w4.heap.size,0,none⟩) 4 4)).setCell ⟨g,1,none⟩ (.slice (some ⟨w4.heap.size+1,0,none⟩) 2 2)).setCell ⟨g,2,none⟩ (.slice none 0 0)).alloc (.cells #[.bool false,.string ⟨#[]⟩,.string ⟨#[1]⟩,.bool false,.string ⟨#[]⟩,.string ⟨#[1]⟩,.bool false,.string ⟨#[2]⟩,.string ⟨#[1]⟩,.bool false,.string ⟨#[]⟩,.string ⟨#[1]⟩,.bool false,.string ⟨#[2]⟩,.string ⟨#[1]⟩,.bool false,.string ⟨#[2]⟩,.string ⟨#[1]⟩,.bool false,.string ⟨#[]⟩,.string ⟨#[1]⟩,.bool false,.string ⟨#[2]⟩,.string ⟨#[1]⟩] 42)).alloc (.cells #[.int .i64 0,.int .i64 1,.int .i64 2,.int .i64 0,.int .i64 2,.int .i64 3] 61)).heap[w4.heap.size]?=some (.cells #[.bool false,.string ⟨#[]⟩,.string ⟨#[1]⟩,.bool false,.string ⟨#[]⟩,.string ⟨#[1]⟩,.bool false,.string ⟨#[2]⟩,.string ⟨#[1]⟩,.bool false,.string ⟨#[]⟩,.string ⟨#[1]⟩,.bool false,.string ⟨#[2]⟩,.string ⟨#[1]⟩,.bool false,.string ⟨#[2]⟩,.string ⟨#[1]⟩,.bool false,.string ⟨#[]⟩,.string ⟨#[1]⟩,.bool false,.string ⟨#[2]⟩,.string ⟨#[1]⟩] 42 (0,0)):=dK (Qg R8) _;have NJ:(((((w4.setCell ⟨g,0,none⟩ (.slice (some ⟨w4.heap.size,0,none⟩) 4 4)).setCell ⟨g,1,none⟩ (.slice (some ⟨w4.heap.size+1,0,none⟩) 2 2)).setCell ⟨g,2,none⟩ (.slice none 0 0)).alloc (.cells #[.bool false,.string ⟨#[]⟩,.string ⟨#[1]⟩,.bool false,.string ⟨#[]⟩,.string ⟨#[1]⟩,.bool false,.string ⟨#[2]⟩,.string ⟨#[1]⟩,.bool false,.string ⟨#[]⟩,.string ⟨#[1]⟩,.bool false,.string ⟨#[2]⟩,.string ⟨#[1]⟩,.bool false,.string ⟨#[2]⟩,.string ⟨#[1]⟩,.bool false,.string ⟨#[]⟩,.string ⟨#[1]⟩,.bool false,.string ⟨#[2]⟩,.string ⟨#[1]⟩] 42)).alloc (.cells #[.int .i64 0,.int .i64 1,.int .i64 2,.int .i64 0,.int .i64 2,.int .i64 3] 61)).heap[w4.heap.size+1]?=some (.cells #[.int .i64 0,.int .i64 1,.int .i64 2,.int .i64 0,.int .i64 2,.int .i64 3] 61 (0,0)):=Qg (by simp);have GM:=dK (dK lK (.cells #[.bool false,.string ⟨#[]⟩,.string ⟨#[1]⟩,.bool false,.string ⟨#[]⟩,.string ⟨#[1]⟩,.bool false,.string ⟨#[2]⟩,.string ⟨#[1]⟩,.bool false,.string ⟨#[]⟩,.string ⟨#[1]⟩,.bool false,.string ⟨#[2]⟩,.string ⟨#[1]⟩,.bool false,.string ⟨#[2]⟩,.string ⟨#[1]⟩,.bool false,.string ⟨#[]⟩,.string ⟨#[1]⟩,.bool false,.string ⟨#[2]⟩,.string ⟨#[1]⟩] 42)) (.cells #[.int .i64 0,.int .i64 1,.int .i64 2,.int .i64 0,.int .i64 2,.int .i64 3] 61);have lJ:=(cQ.alloc (by rw[R8];omega) (.cells #[.bool false,.string ⟨#[]⟩,.string ⟨#[1]⟩,.bool false,.string ⟨#[]⟩,.string ⟨#[1]⟩,.bool false,.string ⟨#[2]⟩,.string ⟨#[1]⟩,.bool false,.string ⟨#[]⟩,.string ⟨#[1]⟩,.bool false,.string ⟨#[2]⟩,.string ⟨#[1]⟩,.bool false,.string ⟨#[2]⟩,.string ⟨#[1]⟩,.bool false,.string ⟨#[]⟩,.string ⟨#[1]⟩,.bool false,.string ⟨#[2]⟩,.string ⟨#[1]⟩] 42)).alloc (by simp;omega) (.cells #[.int .i64 0,.int .i64 1,.int .i64 2,.int .i64 0,.int .i64 2,.int .i64 3] 61);have HR:=qh GM
 have aia:=qh (show OM (((((w4.setCell ⟨g,0,none⟩ (.slice (some ⟨w4.heap.size,0,none⟩) 4 4)).setCell ⟨g,1,none⟩ (.slice (some ⟨w4.heap.size+1,0,none⟩) 2 2)).setCell ⟨g,2,none⟩ (.slice none 0 0)).alloc (.cells #[.bool false,.string ⟨#[]⟩,.string ⟨#[1]⟩,.bool false,.string ⟨#[]⟩,.string ⟨#[1]⟩,.bool false,.string ⟨#[2]⟩,.string ⟨#[1]⟩,.bool false,.string ⟨#[]⟩,.string ⟨#[1]⟩,.bool false,.string ⟨#[2]⟩,.string ⟨#[1]⟩,.bool false,.string ⟨#[2]⟩,.string ⟨#[1]⟩,.bool false,.string ⟨#[]⟩,.string ⟨#[1]⟩,.bool false,.string ⟨#[2]⟩,.string ⟨#[1]⟩] 42)).alloc (.cells #[.int .i64 0,.int .i64 1,.int .i64 2,.int .i64 0,.int .i64 2,.int .i64 3] 61)) w.heap.size (.slice (some ⟨w4.heap.size,0,none⟩) 4 4) (.slice (some ⟨w4.heap.size+1,0,none⟩) 2 2) (.slice none 0 0) ps2 zs2 2 []/\Below w.heap.size w (((((w4.setCell ⟨g,0,none⟩ (.slice (some ⟨w4.heap.size,0,none⟩) 4 4)).setCell ⟨g,1,none⟩ (.slice (some ⟨w4.heap.size+1,0,none⟩) 2 2)).setCell ⟨g,2,none⟩ (.slice none 0 0)).alloc (.cells #[.bool false,.string ⟨#[]⟩,.string ⟨#[1]⟩,.bool false,.string ⟨#[]⟩,.string ⟨#[1]⟩,.bool false,.string ⟨#[2]⟩,.string ⟨#[1]⟩,.bool false,.string ⟨#[]⟩,.string ⟨#[1]⟩,.bool false,.string ⟨#[2]⟩,.string ⟨#[1]⟩,.bool false,.string ⟨#[2]⟩,.string ⟨#[1]⟩,.bool false,.string ⟨#[]⟩,.string ⟨#[1]⟩,.bool false,.string ⟨#[2]⟩,.string ⟨#[1]⟩] 42)).alloc (.cells #[.int .i64 0,.int .i64 1,.int .i64 2,.int .i64 0,.int .i64 2,.int .i64 3] 61)) from
  ⟨⟨⟨_,((((bz.none _ _).snoc (yT _ (Em 0 0)) rfl).snoc (yT _ (Em 2 0)) rfl).snoc (yT _ (Em 2 2)) rfl).snoc (yT _ (Em 0 2)) rfl,K4 (n:=4) hp6 rfl (by rw[hg];omega) qo⟩,K4 (n:=2) NJ rfl (by rw[hg];omega) qo,⟨[],bz.none _ _,World.ownsRow_nil _ _ _ _⟩⟩,by rw[hg];exact lJ⟩)
 clear R8 lK cQ hp6 NJ GM lJ HX j7 xR HX3 Ac yh tD oM;go_wp2_with (refine bodyPost_ret (results_cell_row rfl _ _ g 26 #[.slice (some ⟨w4.heap.size,0,none⟩) 4 4,.slice (some ⟨w4.heap.size+1,0,none⟩) 2 2,.slice none 0 0] (0,0) _ rfl HR.out Tryz.underlying26 rfl qk) rfl ?_;exact⟨_,_,rfl,aia.out.1,aia.out.2⟩)
theorem Qt {p:PT} (h:decide ((rA (pX p)=0/\(pX p).2.1.size<=40/\(pX p).2.2.size<=40)/\rA (pY p)=0/\(pY p).2.1.size<=40/\(pY p).2.2.size<=40)=true):kK p:=by
 obtain⟨⟨h1,h2,h3⟩,h4,h5,h6⟩:=of_decide_eq_true h;exact⟨⟨Cs.1 h1,h2,h3⟩,⟨Cs.1 h4,h5,h6⟩⟩
theorem Kp:Gu ps2:=by
 intro j hj;have hl:ps2.length=4:=rfl;have:j=0\/j=1\/j=2\/j=3:=by omega
 rcases this with rfl|rfl|rfl|rfl
 ·exact Qt (by decide +kernel)
 ·exact Qt (by decide +kernel)
 ·exact Qt (by decide +kernel)
 ·exact Qt (by decide +kernel)
theorem YK:uG ps2.length zs2 2 [] (qD ps2):=by
 refine⟨by decide,by decide,by decide,fun t ht=>?_,fun j hj=>?_,fun i hi=>absurd hi (Nat.not_lt_zero _)⟩
 ·have:t=0\/t=1:=by omega
  rcases this with rfl|rfl
  ·decide +kernel
  ·decide +kernel
 ·have:j=0\/j=1\/j=2\/j=3\/j=4\/j=5:=by omega
  rcases this with rfl|rfl|rfl|rfl|rfl|rfl <;> decide +kernel
theorem auZ:vo ps2 zs2 2 [] (qD ps2) 0 2=(0,ps2,[3,0,1,3,1,2],2,[]):=by
 have h1:qm 2 0 2=true:=by decide
 have h2:wu zs2 2 [] (qD ps2) 2 0 1=some 3:=by decide +kernel
 have h3:xE zs2 0 3 2 0 1 3=[3,0,1,3,1,2]:=by decide +kernel
 unfold vo;rw[if_pos h1];show(match wu zs2 2 [] (qD ps2) 2 0 1 with
  | none=>lT 7
  | some j=>(0,ps2,xE zs2 0 j 2 0 1 (zs2.getD (3*(j / 3)+px (j%3)) 0),2,[]))=_
 rw[h2];show((0:Int),ps2,xE zs2 0 3 2 0 1 3,2,([]:SS))=_;rw[h3]
theorem au0:vo ps2 zs2 2 [] (qD ps2) 0 0=lT 7:=by
 have h1:qm 2 0 0=true:=by decide
 have h2:wu zs2 2 [] (qD ps2) 0 1 2=none:=by decide +kernel
 unfold vo;rw[if_pos h1];show(match wu zs2 2 [] (qD ps2) 0 1 2 with
  | none=>lT 7
  | some j=>(0,ps2,xE zs2 0 j 0 1 2 (zs2.getD (3*(j / 3)+px (j%3)) 0),2,[]))=_
 rw[h2]
abbrev lA:=bg
abbrev oQ (p:lA):Array Value:=#[.bool p.f0.f0.f0,.string p.f0.f0.f1,.string p.f0.f1,.bool p.f1.f0.f0,.string p.f1.f0.f1,.string p.f1.f1]
theorem atq {w:World} {b:Nat} {p:lA} (h:w.heap[b]?=some (.cells (oQ p) 42 (0,0))):Kd.C dX w (some ⟨b,0,none⟩) 1 [p]:=by
 refine⟨rfl,by omega,fun _=>⟨_,rfl,fun j q hj=>?_⟩⟩;cases j with
 | succ j=>simp at hj
 | zero =>
  simp at hj;subst hj;refine⟨_,rfl,yT w p,fun i u hi=>?_⟩;rw[Nat.zero_mul,Nat.zero_add];have:(⟨b,0,none⟩:Addr).add i=⟨b,i,none⟩:=by unfold Addr.add;split <;> simp_all
  rw[this,eA h];simpa using hi
theorem CP {w:World} {b:Nat} {c:Array Value} {t:TypeId} (h:w.heap[b]?=some (.cells c t (0,0))):∀ j u,c.toList[j]?=some u->w.cell? ((⟨b,0,none⟩:Addr).add j)=some u:=by
 intro j u hj;have:(⟨b,0,none⟩:Addr).add j=⟨b,j,none⟩:=by unfold Addr.add;split <;> simp_all
 rw[this,eA h];simpa using hj
theorem apM (A0 A1 A2:Option Addr) (n0 c0 n1 c1 n2 c2:Nat) (w:World) (h0:n0<400) (h1:n1<=898) :
  Calls Tryz.prog 40 #[.agg #[.slice A0 n0 c0,.slice A1 n1 c1,.slice A2 n2 c2]] w fun e w'=>e = .returned (.bool false)/\Below w.heap.size w w':=by
 have HM:=qh (MB.new w A0 A1 A2 n0 c0 n1 c1 n2 c2);have q0:=HM.out.b0;have q1:=HM.out.b1;have e0:decide ((400:Int)<=(n0:Int))=false:=decide_eq_false qo;have B9:decide (400<=n0)=false:=decide_eq_false qo;have e1:decide ((898:Int)<(n1:Int))=false:=decide_eq_false qo;have B_:decide (898<n1)=false:=decide_eq_false qo;clear h0 h1;go_enter Tryz.func40,Tryz.ntmps40;go_wp2
 go_ret
 exact⟨rfl,HM.out.below⟩
structure RP (g:Nat) (w:World) (A0 A1 A2:Option Addr) (n0 c0 n1 c1 n2 c2:Nat) (p:lA) (W:World):Prop where
 box:MB g w A0 A1 A2 n0 c0 n1 c1 n2 c2 W
 bp:aO (W.heap[g+1]?=some (.cells (oQ p) 42 (0,0)))
 br:aO (W.heap[g+2]?=some (.cells fI 26 (0,0)))
theorem RP.step {g:Nat} {w:World} {A0 A1 A2:Option Addr} {n0 c0 n1 c1 n2 c2:Nat} {p:lA} {W W':World} (h:RP g w A0 A1 A2 n0 c0 n1 c1 n2 c2 p W) (hb:Below W.heap.size W W'):RP g w A0 A1 A2 n0 c0 n1 c1 n2 c2 p W' :=
 ⟨h.box.step hb,⟨eW h.bp.out hb⟩,⟨eW h.br.out hb⟩⟩
theorem RP.new (w:World) (A0 A1 A2:Option Addr) (n0 c0 n1 c1 n2 c2:Nat) (p:lA):RP w.heap.size w A0 A1 A2 n0 c0 n1 c1 n2 c2 p (((w.alloc (.cells #[.slice A0 n0 c0,.slice A1 n1 c1,.slice A2 n2 c2] 26)).alloc (.cells (oQ p) 42)).alloc (.cells fI 26)):=by
 refine⟨(MB.new w A0 A1 A2 n0 c0 n1 c1 n2 c2).step (((Below.refl _ _).alloc (Nat.le_refl _) _).alloc (by simp) _),⟨?_⟩,⟨?_⟩⟩
 ·have:=dK (iw (w.alloc (.cells #[.slice A0 n0 c0,.slice A1 n1 c1,.slice A2 n2 c2] 26)) (.cells (oQ p) 42)) (.cells fI 26)
  simpa using this
 ·have:=iw ((w.alloc (.cells #[.slice A0 n0 c0,.slice A1 n1 c1,.slice A2 n2 c2] 26)).alloc (.cells (oQ p) 42)) (.cells fI 26)
  simpa using this
theorem RP.bad {g:Nat} {w:World} {A0 A1 A2:Option Addr} {n0 c0 n1 c1 n2 c2:Nat} {p:lA} {W:World} (h:RP g w A0 A1 A2 n0 c0 n1 c1 n2 c2 p W) (hg:w.heap.size=g) (r:Int) :
  (((W.setCell ⟨g+2,0,none⟩ (.slice none 0 0)).setCell ⟨g+2,1,none⟩ (.slice none 0 0)).setCell ⟨g+2,2,none⟩ (.slice none 0 0)).heap[g+2]?=some (.cells fI 26 (0,0))/\uS w (lT r) (.returned (.tuple #[.agg fI,.int .i64 r])) (((W.setCell ⟨g+2,0,none⟩ (.slice none 0 0)).setCell ⟨g+2,1,none⟩ (.slice none 0 0)).setCell ⟨g+2,2,none⟩ (.slice none 0 0)):=by
 have h3:=ret3 h.box.below h.br (show g<g+2 by omega) (.slice none 0 0) (.slice none 0 0) (.slice none 0 0);exact⟨h3.1,uS.bad _ _ _ (by rw[hg];exact h3.2)⟩
theorem apN (A0 A1 A2:Option Addr) (n0 c0 n1 c1 n2 c2:Nat) (w:World) (h0:n0<400) (h1:n1<=898) :
  Calls Tryz.prog 38 #[.agg #[.slice A0 n0 c0,.slice A1 n1 c1,.slice A2 n2 c2]] w fun e w'=>e = .returned (.bool true)/\Below w.heap.size w w':=by
 have HM:=qh (MB.new w A0 A1 A2 n0 c0 n1 c1 n2 c2);have q0:=HM.out.b0;have q1:=HM.out.b1;have e0:decide ((n0:Int)<(400:Int))=true:=decide_eq_true qo;have B9:decide (n0<400)=true:=decide_eq_true qo;have e1:decide ((n1:Int)<=(898:Int))=true:=decide_eq_true qo;have B_:decide (n1<=898)=true:=decide_eq_true qo;clear h0 h1;go_enter Tryz.func38,Tryz.ntmps38;go_wp2
 go_ret
 exact⟨rfl,HM.out.below⟩
def WiP (K:Nat) (ps:PS) (p:lA) (bJ wi:Nat->Nat->Nat->Int) (br:Int):Prop:=∀ i j k,i<ps.length->j<ps.length->k<ps.length->0<bJ i j k ->
 aja.f K (ay ps i).f0.f0.f0 (ay ps i).f0.f0.f1 (ay ps i).f0.f1 (ay ps i).f1.f0.f0 (ay ps i).f1.f0.f1 (ay ps i).f1.f1 (ay ps j).f0.f0.f0 (ay ps j).f0.f0.f1 (ay ps j).f0.f1 (ay ps j).f1.f0.f0 (ay ps j).f1.f0.f1 (ay ps j).f1.f1 (ay ps k).f0.f0.f0 (ay ps k).f0.f0.f1 (ay ps k).f0.f1 (ay ps k).f1.f0.f0 (ay ps k).f1.f0.f1 (ay ps k).f1.f1 p.f0.f0.f0 p.f0.f0.f1 p.f0.f1 p.f1.f0.f0 p.f1.f0.f1 p.f1.f1=some (if br=0 then (wi i j k,0) else (0,br))
abbrev T3 (w0:World) (p0 p1 p2:Addr) (v0 v1 v2:Value) (W:World):Prop:=W.cell? p0=some v0/\W.cell? p1=some v1/\W.cell? p2=some v2/\Below w0.heap.size w0 W
theorem atv {w0 W:World} {p0 p1 p2:Addr} {v0 v1 v2:Value} (h:T3 w0 p0 p1 p2 v0 v1 v2 w0) (hb:Below w0.heap.size w0 W):T3 w0 p0 p1 p2 v0 v1 v2 W :=
 ⟨(hb.cell (ql h.1)).trans h.1,(hb.cell (ql h.2.1)).trans h.2.1,(hb.cell (ql h.2.2.1)).trans h.2.2.1,hb⟩
theorem ac_ {w0 W W':World} {p0 p1 p2:Addr} {v0 v1 v2:Value} (hb:Below W.heap.size W W') (h:T3 w0 p0 p1 p2 v0 v1 v2 W):T3 w0 p0 p1 p2 v0 v1 v2 W' :=
 ⟨(hb.cell (ql h.1)).trans h.1,(hb.cell (ql h.2.1)).trans h.2.1,(hb.cell (ql h.2.2.1)).trans h.2.2.1,h.2.2.2.trans (hb.mono h.2.2.2.size)⟩
theorem ao2 {w0 W:World} {p0 p1 p2:Addr} {v0 v1 v2:Value} (h:T3 w0 p0 p1 p2 v0 v1 v2 W):T3 w0 p0 p1 p2 v0 v1 v2 W.drew:=⟨h.1,h.2.1,h.2.2.1,h.2.2.2.drew⟩
theorem alf {w0 W:World} {p0 p1 p2:Addr} {v0 v1 v2:Value} (o:Obj) (h:T3 w0 p0 p1 p2 v0 v1 v2 W):T3 w0 p0 p1 p2 v0 v1 v2 (W.alloc o):=ac_ ((Below.refl _ _).alloc (Nat.le_refl _) _) h
theorem apO {w0 W:World} {p0 p1 p2:Addr} {v0 v1 v2:Value} (h0:T3 w0 p0 p1 p2 v0 v1 v2 w0) (h:T3 w0 p0 p1 p2 v0 v1 v2 W) {q:Nat} (hq:w0.heap.size<=q) (u v z:Value):T3 w0 p0 p1 p2 v0 v1 v2 (((W.setCell ⟨q,0,none⟩ u).setCell ⟨q,1,none⟩ v).setCell ⟨q,2,none⟩ z) :=
 atv h0 (((h.2.2.2.setCell (p:=⟨q,0,none⟩) hq u).setCell (p:=⟨q,1,none⟩) hq v).setCell (p:=⟨q,2,none⟩) hq z)
end Go.Proofs.YtfcjnhkkfmgmpaaGreat
