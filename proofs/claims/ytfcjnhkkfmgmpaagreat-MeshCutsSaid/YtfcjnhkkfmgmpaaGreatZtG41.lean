import Derived.Test.YtfcjnhkkfmgmpaaGreatZtG29
import Derived.ChangeKeysEq
set_option linter.all false
set_option maxRecDepth 100000
set_option maxHeartbeats 8000000
namespace Go.Proofs.YtfcjnhkkfmgmpaaGreat
open Go.RowKit aS Go.Maps Go.Proofs.aA.R Go.Proofs.aA.Z Go.Proofs.aB.aZ
def Rh:Value->Option (DataW Unit × List MemPlace)
 | .bool b=>some (.lit (.bool b),[])
 | _=>none
theorem aba (b:Bool):Rh (.bool b)=some (.lit (.bool b),[]):=rfl
theorem akl {v:Value} {b:Bool} {ps:List MemPlace} (h:Rh v=some (.lit (.bool b),ps)):v = .bool b:=by
 unfold Rh at h;split at h
 ·rename_i b'
  have e:=congrArg Prod.fst (Option.some.inj h);simp at e;rw[e]
 ·cases h
def AX (ss:SS) (a b:Int):Nat->Bool
 | 0=>false
 | i+1=>AX ss a b i||(decide (min (bH ss i).f0 (bH ss i).f1=a)&&decide (max (bH ss i).f0 (bH ss i).f1=b))
theorem ai' {ss:SS} {a b:Int}:∀ {i:Nat},(∀ j,j<i->¬ (min (bH ss j).f0 (bH ss j).f1=a/\max (bH ss j).f0 (bH ss j).f1=b))->AX ss a b i=false:=by
 intro i;induction i with
 | zero=>intro _;rfl
 | succ i ih =>
  intro h;unfold AX;rw[ih (fun j hj=>h j qo),Bool.false_or];have h1:=h i qo;by_cases e:min (bH ss i).f0 (bH ss i).f1=a
  ·have e2:¬ max (bH ss i).f0 (bH ss i).f1=b:=fun e2=>h1 ⟨e,e2⟩
   rw[decide_eq_false e2,Bool.and_false]
  ·rw[decide_eq_false e,Bool.false_and]
def tu (w:World) (B:Nat) (ss:SS) (i:Nat):Prop:=∃ D n,n<=i/\w.ownsMap Tryz.prog 66 Rh B n D/\∀ a b,W6 a->W6 b->D.atKey (ek a b) (.lit (.bool false)) = .lit (.bool (AX ss a b i))
theorem tu.lt {w:World} {B:Nat} {ss:SS} {m:Nat} (h:tu w B ss m):B<w.heap.size:=by
 obtain⟨D,n,hn,ho,h⟩:=h;exact ho.lt
theorem tu.block {w w':World} {B:Nat} {ss:SS} {m:Nat} (h:tu w B ss m) (hb:w'.heap[B]?=w.heap[B]?):tu w' B ss m:=by
 obtain⟨D,n,hn,⟨es,clock,h1,h2,h3,h4⟩,h⟩:=h;exact⟨D,n,hn,⟨es,clock,hb.trans h1,h2,h3,h4⟩,h⟩
theorem tu.made (w:World) (ss:SS):tu (w.alloc (.map #[] 0)) w.heap.size ss 0 :=
 ⟨_,0,Nat.le_refl _,World.ownsMap_made _ _ _ _,fun a b ha hb=>rfl⟩
theorem akm (w:World):(zeroValue 4).run Tryz.prog w = .ok (.bool false) w:=by kernel_rfl
theorem tu.look {w:World} {B:Nat} {ss:SS} {m:Nat} (h:tu w B ss m) {a b:Int} (ha:W6 a) (hb:W6 b) :
  (Instr.lookup 96 (.map (some B)) (.agg #[.int .i64 a,.int .i64 b]) false).run Tryz.prog w = .ok (.bool (AX ss a b m)) w:=by
 obtain⟨D,n,hn,ho,h⟩:=h;obtain⟨v,ps,hrun,hv⟩:=ho.lookup Iy Tryz.underlying96 (akm w) (aba false) (FJ ha hb);rw[h a b ha hb]at hv
 rw[akl hv]at hrun
 exact hrun
theorem tu.more {w:World} {B:Nat} {ss:SS} {m:Nat} (h:tu w B ss m) (hm:m<maxLen) {a b:Int} (ha:W6 a) (hb:W6 b) (ea:min (bH ss m).f0 (bH ss m).f1=a) (eb:max (bH ss m).f0 (bH ss m).f1=b) :
  ∃ w',(Instr.mapUpdate 96 (.map (some B)) (.agg #[.int .i64 a,.int .i64 b]) (.bool true)).run Tryz.prog w = .ok () w'/\tu w' B ss (m+1)/\w.grownBy w' (some B):=by
 obtain⟨D,n,hn,ho,h⟩:=h;obtain⟨w',hrun,ho',hg⟩:=ho.update Iy Tryz.underlying96 qo (FJ ha hb) (aba true);refine⟨w',hrun,⟨_,n+1,by omega,ho',fun c d hc hd=>?_⟩,hg⟩;by_cases he:a=c/\b=d
 ·obtain⟨rfl,rfl⟩:=he
  rw[atKey_put_same ho.isMap (Wb ha hb)];unfold AX;rw[decide_eq_true ea,decide_eq_true eb];simp
 ·have hne:ek c d≠ek a b:=fun h=>he (by obtain⟨h1,h2⟩:=adv hc hd ha hb h;exact⟨h1.symm,h2.symm⟩)
  rw[atKey_put_other hne,h c d hc hd];have e9:AX ss c d (m+1)=(AX ss c d m||(decide (min (bH ss m).f0 (bH ss m).f1=c)&&decide (max (bH ss m).f0 (bH ss m).f1=d))):=rfl;have:(decide (min (bH ss m).f0 (bH ss m).f1=c)&&decide (max (bH ss m).f0 (bH ss m).f1=d))=false:=by
   rw[ea,eb];by_cases e1:a=c
   ·have e2:¬ b=d:=fun e2=>he ⟨e1,e2⟩
    rw[decide_eq_false e2,Bool.and_false]
   ·rw[decide_eq_false e1,Bool.false_and]
  rw[e9,this,Bool.or_false]
structure uG (n0:Nat) (zs:List Int) (n1:Nat) (ss:SS) (bJ:Nat->Nat->Nat->Int):Prop where
 l0:n0<=400
 l1:n1<=900
 l2:ss.length<=1300
 c:∀ t,t<n1->zi bJ n0 zs t=true
 d:∀ j,j<3*n1->bV zs (zs.getD j 0) (zs.getD (3*(j / 3)+nx (j%3)) 0) (3*n1)=some j
 s:∀ i,i<ss.length->((bV zs (bH ss i).f0 (bH ss i).f1 (3*n1)).isSome=true\/(bV zs (bH ss i).f1 (bH ss i).f0 (3*n1)).isSome=true)/\∀ j,j<i->¬ (min (bH ss j).f0 (bH ss j).f1=min (bH ss i).f0 (bH ss i).f1/\max (bH ss j).f0 (bH ss j).f1=max (bH ss i).f0 (bH ss i).f1)
theorem uG.inr {n0 n1:Nat} {zs:List Int} {ss:SS} {bJ:Nat->Nat->Nat->Int} (h:uG n0 zs n1 ss bJ) {j:Nat} (hj:j<3*n1):0<=zs.getD j 0/\zs.getD j 0<n0:=by
 have hc:=h.c (j / 3) qo;unfold zi at hc;rw[Bool.and_eq_true]at hc
 obtain⟨h0,h1,h2⟩:=of_decide_eq_true hc.1;have:j%3=0\/j%3=1\/j%3=2:=by omega
 rcases this with e|e|e
 ·rw[show 3*(j / 3)=j by omega]at h0;exact h0
 ·rw[show 3*(j / 3)+1=j by omega]at h1;exact h1
 ·rw[show 3*(j / 3)+2=j by omega]at h2;exact h2
theorem vn {a:Int} (h0:0<=a) (h1:a<9000000000000000000):W6 a:=WalkArith.wf_i64 qo
theorem uG.w6 {n0 n1:Nat} {zs:List Int} {ss:SS} {bJ:Nat->Nat->Nat->Int} (h:uG n0 zs n1 ss bJ) {j:Nat} (hj:j<3*n1):W6 (zs.getD j 0) :=
 vn (h.inr hj).1 (by have:=(h.inr hj).2;have:=h.l0;omega)
theorem uG.qg {n0 n1:Nat} {zs:List Int} {ss:SS} {bJ:Nat->Nat->Nat->Int} (h:uG n0 zs n1 ss bJ) {a b:Int} (hf:(bV zs a b (3*n1)).isSome=true):(0<=a/\a<n0)/\(0<=b/\b<n0):=by
 obtain⟨j,hj⟩:=Option.isSome_iff_exists.1 hf;obtain⟨h1,⟨h2,h3⟩,-⟩:=Ex hj;have i1:=h.inr h1;have i2:=h.inr (j:=3*(j / 3)+nx (j%3)) (by unfold nx;split <;> omega);rw[h2]at i1
 rw[h3]at i2
 exact⟨i1,i2⟩
structure RI (g:Nat) (w:World) (A0 A1 A2:Option Addr) (n0 c0 n1 c1 n2 c2 B B2:Nat) (zs:List Int) (ss:SS) (i:Nat) (wr:World):Prop where
 box:MB g w A0 A1 A2 n0 c0 n1 c1 n2 c2 wr
 mp:SMap wr B zs (3*n1)
 sn:tu wr B2 ss i
 hB:g<B
 tJ:B<B2
theorem RI.step {g:Nat} {w:World} {A0 A1 A2:Option Addr} {n0 c0 n1 c1 n2 c2 B B2:Nat} {zs:List Int} {ss:SS} {i:Nat} {wr w2:World} (h:RI g w A0 A1 A2 n0 c0 n1 c1 n2 c2 B B2 zs ss i wr) (hb:Below wr.heap.size wr w2):RI g w A0 A1 A2 n0 c0 n1 c1 n2 c2 B B2 zs ss i w2 :=
 ⟨h.box.step hb,h.mp.block (hb.block _ h.mp.lt),h.sn.block (hb.block _ h.sn.lt),h.hB,h.tJ⟩
theorem RI.put {g:Nat} {w:World} {A0 A1 A2:Option Addr} {n0 c0 n1 c1 n2 c2 B B2:Nat} {zs:List Int} {ss:SS} {i:Nat} {wr w2:World} (h:RI g w A0 A1 A2 n0 c0 n1 c1 n2 c2 B B2 zs ss i wr) (hg:wr.grownBy w2 (some B2)) (hm:tu w2 B2 ss (i+1)):RI g w A0 A1 A2 n0 c0 n1 c1 n2 c2 B B2 zs ss (i+1) w2:=by
 have hl:g<wr.heap.size:=ql h.box.b0;have h1:=h.hB;have h2:=h.tJ;have hbg:w2.heap[g]?=wr.heap[g]?:=hg.block g hl (by intro e;injection e with e;omega);exact⟨⟨h.box.below.grown hg qo (fun k e=>by injection e with e;omega),(World.cell?_of_block (a:=⟨g,0,none⟩) hbg).trans h.box.b0,(World.cell?_of_block (a:=⟨g,1,none⟩) hbg).trans h.box.b1,(World.cell?_of_block (a:=⟨g,2,none⟩) hbg).trans h.box.b2⟩,h.mp.block (hg.block B h.mp.lt (by intro e;injection e with e;omega)),hm,h1,h2⟩
theorem aof {g h n0 c0 n1 c1 n2 c2:Nat} {i j k:Int} {w:World} {A0 A1 A2:Option Addr} {W W':World} (hbr:Below W.heap.size W W') (hS:W.cell? ⟨g,0,none⟩=some (.slice A0 n0 c0)/\W.cell? ⟨g,1,none⟩=some (.slice A1 n1 c1)/\W.cell? ⟨g,2,none⟩=some (.slice A2 n2 c2)/\W.cell? ⟨h,0,none⟩=some (.int .i64 i)/\W.cell? ⟨h,1,none⟩=some (.int .i64 j)/\W.cell? ⟨h,2,none⟩=some (.int .i64 k)/\Below g w W):W'.cell? ⟨g,0,none⟩=some (.slice A0 n0 c0)/\W'.cell? ⟨g,1,none⟩=some (.slice A1 n1 c1)/\W'.cell? ⟨g,2,none⟩=some (.slice A2 n2 c2)/\W'.cell? ⟨h,0,none⟩=some (.int .i64 i)/\W'.cell? ⟨h,1,none⟩=some (.int .i64 j)/\W'.cell? ⟨h,2,none⟩=some (.int .i64 k)/\Below g w W' :=
 ⟨(hbr.cell (ql hS.1)).trans hS.1,(hbr.cell (ql hS.2.1)).trans hS.2.1,(hbr.cell (ql hS.2.2.1)).trans hS.2.2.1,(hbr.cell (ql hS.2.2.2.1)).trans hS.2.2.2.1,(hbr.cell (ql hS.2.2.2.2.1)).trans hS.2.2.2.2.1,(hbr.cell (ql hS.2.2.2.2.2.1)).trans hS.2.2.2.2.2.1,hS.2.2.2.2.2.2.trans (hbr.mono (by have:=ql hS.1;exact Nat.le_of_lt this))⟩
theorem PR {g h n0 c0 n1 c1 n2 c2:Nat} {i j k:Int} {w:World} {A0 A1 A2:Option Addr} {W:World} (hS:W.cell? ⟨g,0,none⟩=some (.slice A0 n0 c0)/\W.cell? ⟨g,1,none⟩=some (.slice A1 n1 c1)/\W.cell? ⟨g,2,none⟩=some (.slice A2 n2 c2)/\W.cell? ⟨h,0,none⟩=some (.int .i64 i)/\W.cell? ⟨h,1,none⟩=some (.int .i64 j)/\W.cell? ⟨h,2,none⟩=some (.int .i64 k)/\Below g w W):W.drew.cell? ⟨g,0,none⟩=some (.slice A0 n0 c0)/\W.drew.cell? ⟨g,1,none⟩=some (.slice A1 n1 c1)/\W.drew.cell? ⟨g,2,none⟩=some (.slice A2 n2 c2)/\W.drew.cell? ⟨h,0,none⟩=some (.int .i64 i)/\W.drew.cell? ⟨h,1,none⟩=some (.int .i64 j)/\W.drew.cell? ⟨h,2,none⟩=some (.int .i64 k)/\Below g w W.drew:=⟨hS.1,hS.2.1,hS.2.2.1,hS.2.2.2.1,hS.2.2.2.2.1,hS.2.2.2.2.2.1,hS.2.2.2.2.2.2.drew⟩
theorem afK {g h n0 c0 n1 c1 n2 c2:Nat} {i j k:Int} {w:World} {A0 A1 A2:Option Addr} {W:World} (hS:W.cell? ⟨g,0,none⟩=some (.slice A0 n0 c0)/\W.cell? ⟨g,1,none⟩=some (.slice A1 n1 c1)/\W.cell? ⟨g,2,none⟩=some (.slice A2 n2 c2)/\W.cell? ⟨h,0,none⟩=some (.int .i64 i)/\W.cell? ⟨h,1,none⟩=some (.int .i64 j)/\W.cell? ⟨h,2,none⟩=some (.int .i64 k)/\Below g w W):R3 W ⟨h,0,none⟩ i j k:=⟨hS.2.2.2.1,hS.2.2.2.2.1,hS.2.2.2.2.2.1⟩
theorem adJ {g h n0 c0 n1 c1 n2 c2:Nat} {i j k:Int} {w:World} {A0 A1 A2:Option Addr} {W:World} (hS:W.cell? ⟨g,0,none⟩=some (.slice A0 n0 c0)/\W.cell? ⟨g,1,none⟩=some (.slice A1 n1 c1)/\W.cell? ⟨g,2,none⟩=some (.slice A2 n2 c2)/\W.cell? ⟨h,0,none⟩=some (.int .i64 i)/\W.cell? ⟨h,1,none⟩=some (.int .i64 j)/\W.cell? ⟨h,2,none⟩=some (.int .i64 k)/\Below g w W):Below g w W:=hS.2.2.2.2.2.2
theorem afL {g h n0 c0 n1 c1 n2 c2:Nat} {i j k:Int} {w:World} {A0 A1 A2:Option Addr} {W:World} (hS:W.cell? ⟨g,0,none⟩=some (.slice A0 n0 c0)/\W.cell? ⟨g,1,none⟩=some (.slice A1 n1 c1)/\W.cell? ⟨g,2,none⟩=some (.slice A2 n2 c2)/\W.cell? ⟨h,0,none⟩=some (.int .i64 i)/\W.cell? ⟨h,1,none⟩=some (.int .i64 j)/\W.cell? ⟨h,2,none⟩=some (.int .i64 k)/\Below g w W):MB g w A0 A1 A2 n0 c0 n1 c1 n2 c2 W:=⟨hS.2.2.2.2.2.2,hS.1,hS.2.1,hS.2.2.1⟩
theorem U3 (A0 A1 A2:Option Addr) (c0 n1 c1 c2:Nat) (ps:PS) (zs:List Int) (ss:SS) (w:World) (hA:mJ w A0 A1 A2 c0 c2 ps zs n1 ss) (K:Nat) (hK:pQ.f K ps=some 0) (bJ:Nat->Nat->Nat->Int) (hO:Kn K ps bJ) (hM:uG ps.length zs n1 ss bJ) :
  Calls Tryz.prog 25 #[.agg #[.slice A0 ps.length c0,.slice A1 n1 c1,.slice A2 ss.length c2]] w fun e w'=>∃ kb B,e = .returned (.tuple #[.pointer (some ⟨kb,0,none⟩),.int .i64 0])/\w.heap.size<=kb/\w.heap.size<=B/\SMap w' B zs (3*n1)/\w'.cell? ⟨kb,0,none⟩=some (.slice A0 ps.length c0)/\w'.cell? ⟨kb,1,none⟩=some (.slice A1 n1 c1)/\w'.cell? ⟨kb,2,none⟩=some (.slice A2 ss.length c2)/\w'.cell? ⟨kb,3,none⟩=some (.map (some B))/\Below w.heap.size w w':=by
 obtain⟨n0,hn0⟩:∃ n,ps.length=n:=⟨_,rfl⟩
 obtain⟨n2,hn2⟩:∃ n,ss.length=n:=⟨_,rfl⟩
 have HB:=qh (MB.new w A0 A1 A2 n0 c0 n1 c1 n2 c2);have H0:=qh hn0;have H2:=qh hn2;have HA:=qh hA;have HK:=qh hK;have HO:=qh hO;rw[hn0]at hM
 have HM:=qh hM;have hl0:=hM.l0;have fJ:=hM.l1;have hl2:=hM.l2;rw[hn2]at hl2
 have e0:decide ((400:Int)<(n0:Int))=false:=decide_eq_false qo;have e1:decide ((900:Int)<(n1:Int))=false:=decide_eq_false qo;have e2:decide ((1300:Int)<(n2:Int))=false:=decide_eq_false qo;have HL:=qh (show n0<=400/\n1<=900/\n2<=1300 from ⟨hl0,fJ,hl2⟩);rw[hn0,hn2];clear hA hK hO hM hn0 hn2 hl0 fJ hl2;have q0:=HB.out.b0;have q1:=HB.out.b1;have q2:=HB.out.b2;have x_:=qh (pQ.calls K A0 c0 ps 0 _ (HA.out.below HB.out.below rfl).p HA.out.pc HK.out);rw[H0.out]at x_
 obtain⟨g,hg⟩:∃ g,w.heap.size=g:=⟨_,rfl⟩
 have HG:=qh hg;go_enter Tryz.func25,Tryz.ntmps25;go_wp2_with fail
 refine x_.out.mono ?_;rintro e w2 ⟨rfl,hb⟩;have cZ:=qh (HB.out.step (by first|exact hb|exact hb.below));clear hb q0 q1 q2 x_ HB;rw[hg]at cZ
 clear hg;have q0:=cZ.out.b0;have q1:=cZ.out.b1;have q2:=cZ.out.b2;go_wp2
 clear q0 q1 q2;go_loopw [42] (fun v wr=>∃ (t:Nat),t<=n1/\v = .int .i64 (t:Int)/\Hid (MB g w A0 A1 A2 n0 c0 n1 c1 n2 c2 wr)) (fun v _=>n1-(intOf v).toNat)
 case atStart=>exact⟨0,Nat.zero_le _,rfl,cZ⟩
 case round =>
  obtain⟨t,ht,rfl,hI⟩:=hrel;have q0:=hI.out.b0;have q1:=hI.out.b1;have q2:=hI.out.b2;by_cases htn:t<n1
  ·have h1:decide ((t:Int)<(n1:Int))=true:=decide_eq_true qo
   have h2:((t:Int)<(n1:Int))=True:=eq_true qo;have h3:(t<n1)=True:=eq_true htn;have h4:((0:Int)<=(t:Int))=True:=eq_true qo;have gJ:=HA.out.below hI.out.below HG.out.symm;obtain⟨ad,rfl,hc⟩:=gJ.t qo;have y0:=hc (t*3) qo;have y1:=hc (t*3+1) qo;have y2:=hc (t*3+2) qo;rw[xF _ _ _ qd]at y1 y2
   rw[show zs.getD (t*3) 0=zs.getD (3*t) 0 by rw[Nat.mul_comm]]at y0
   rw[show zs.getD (t*3+1) 0=zs.getD (3*t+1) 0 by rw[Nat.mul_comm]]at y1
   rw[show zs.getD (t*3+2) 0=zs.getD (3*t+2) 0 by rw[Nat.mul_comm]]at y2
   have hcc:=HM.out.c t htn;unfold zi at hcc;rw[Bool.and_eq_true]at hcc
   obtain⟨⟨i0,i1⟩,⟨j0,j1⟩,⟨k0,k1⟩⟩:=of_decide_eq_true hcc.1;have Ko:=of_decide_eq_true hcc.2;clear hcc;obtain⟨i,hi⟩:∃ i:Nat,zs.getD (3*t) 0=(i:Int):=⟨_,(Int.toNat_of_nonneg i0).symm⟩
   obtain⟨j,hj⟩:∃ j:Nat,zs.getD (3*t+1) 0=(j:Int):=⟨_,(Int.toNat_of_nonneg j0).symm⟩
   obtain⟨k,hk⟩:∃ k:Nat,zs.getD (3*t+2) 0=(k:Int):=⟨_,(Int.toNat_of_nonneg k0).symm⟩
   rw[hi]at y0 i0 i1 Ko
   rw[hj]at y1 j0 j1 Ko
   rw[hk]at y2 k0 k1 Ko
   rw[Int.toNat_natCast,Int.toNat_natCast,Int.toNat_natCast]at Ko
   have Hh:=qh (fun W (hb:Below g w W)=>Wj A0 (some ad) A2 n0 c0 n1 c1 n2 c2 ps W (by have:=(HA.out.below hb HG.out.symm).p;rw[H0.out]at this;exact this) H0.out K bJ HO.out i j k qo qo qo);rw[show decide (0<bJ i j k)=true from decide_eq_true Ko]at Hh
   have ZP:=qh (fun W (h9:R3 W ⟨wr.heap.size,0,none⟩ (i:Int) (j:Int) (k:Int))=>ak7 n0 ⟨wr.heap.size,0,none⟩ 3 (i:Int) (j:Int) (k:Int) W h9);rw[show decide ((0:Int)<=min (i:Int) (min (j:Int) (k:Int)))=true from decide_eq_true qo,show decide (max (i:Int) (max (j:Int) (k:Int))<(n0:Int))=true from decide_eq_true qo,Bool.and_self]at ZP
   have HT:=qh htn;have bI:=qh (hI.out.step ((Below.refl wr.heap.size wr).alloc (Nat.le_refl _) (.cells #[.int .i64 (i:Int),.int .i64 (j:Int),.int .i64 (k:Int)] 61)));have HS:=qh (show(wr.alloc (.cells #[.int .i64 (i:Int),.int .i64 (j:Int),.int .i64 (k:Int)] 61)).cell? ⟨g,0,none⟩=some (.slice A0 n0 c0)/\(wr.alloc (.cells #[.int .i64 (i:Int),.int .i64 (j:Int),.int .i64 (k:Int)] 61)).cell? ⟨g,1,none⟩=some (.slice (some ad) n1 c1)/\(wr.alloc (.cells #[.int .i64 (i:Int),.int .i64 (j:Int),.int .i64 (k:Int)] 61)).cell? ⟨g,2,none⟩=some (.slice A2 n2 c2)/\(wr.alloc (.cells #[.int .i64 (i:Int),.int .i64 (j:Int),.int .i64 (k:Int)] 61)).cell? ⟨wr.heap.size,0,none⟩=some (.int .i64 (i:Int))/\(wr.alloc (.cells #[.int .i64 (i:Int),.int .i64 (j:Int),.int .i64 (k:Int)] 61)).cell? ⟨wr.heap.size,1,none⟩=some (.int .i64 (j:Int))/\(wr.alloc (.cells #[.int .i64 (i:Int),.int .i64 (j:Int),.int .i64 (k:Int)] 61)).cell? ⟨wr.heap.size,2,none⟩=some (.int .i64 (k:Int))/\Below g w (wr.alloc (.cells #[.int .i64 (i:Int),.int .i64 (j:Int),.int .i64 (k:Int)] 61)) from ⟨bI.out.b0,bI.out.b1,bI.out.b2,by simp[go_sem],by simp[go_sem],by simp[go_sem],bI.out.below⟩);clear hc gJ hi hj hk Ko i0 i1 j0 j1 k0 k1 htn ht;go_wp2
   generalize (wr.alloc (.cells #[.int .i64 (i:Int),.int .i64 (j:Int),.int .i64 (k:Int)] 61))=W1 at HS bI ⊢;generalize wr.heap.size=h at HS ZP ⊢;have dI:=HS.out;clear q0 q1 q2 y0 y1 y2;go_region_held3 (fun w'=>w'.cell? ⟨g,0,none⟩=some (.slice A0 n0 c0)/\w'.cell? ⟨g,1,none⟩=some (.slice (some ad) n1 c1)/\w'.cell? ⟨g,2,none⟩=some (.slice A2 n2 c2)/\w'.cell? ⟨h,0,none⟩=some (.int .i64 (i:Int))/\w'.cell? ⟨h,1,none⟩=some (.int .i64 (j:Int))/\w'.cell? ⟨h,2,none⟩=some (.int .i64 (k:Int))/\Below g w w') (first|assumption|exact PR (by assumption)) (first|(go_at_call 47;refine(ZP.out _ (by first|exact afK (by assumption)|exact afK (PR (by assumption)))).mono ?_;rintro e NU ⟨rfl,rfl⟩)|(go_at_call 30;refine(Hh.out _ (by first|exact adJ (by assumption)|exact adJ (PR (by assumption)))).mono ?_;rintro e NU ⟨rfl,hbr⟩;have hS1:=aof hbr (by assumption);clear hbr))
   all_goals go_wp2
   all_goals (rw[mK (by have:=HT.out;have:=HL.out;omega)])
   all_goals exact⟨⟨t+1,by have:=HT.out;omega,rfl,qh (by first|exact afL hS1|exact afL (PR hS1))⟩,by have:=HT.out;show n1-(((t+1:Nat):Int)).toNat<n1-((t:Nat):Int).toNat;omega⟩
  ·have h1:decide ((t:Int)<(n1:Int))=false:=decide_eq_false qo
   have BV:decide (t<n1)=false:=decide_eq_false htn;have G8:=qh (ak8 A0 A1 A2 n0 c0 n1 c1 n2 c2 zs wr (HA.out.below hI.out.below HG.out.symm).t (by have:=HL.out;omega) (fun j hj=>HM.out.w6 hj) HM.out.d);clear htn ht;go_wp2_with fail
   refine G8.out.mono ?_;rintro e w3 ⟨B,rfl,hBB,hmp,hb⟩;have cW:=qh (hI.out.step hb);have Ei:=qh hmp;have rI:=qh (show g<B by have:=ql q0;have h9:g<wr.heap.size:=this;omega);clear hb hmp hBB hI q0 q1 q2 h1 BV;have q0:=cW.out.b0;have q1:=cW.out.b1;have q2:=cW.out.b2;have hmm:=@run_makeMap Tryz.prog
   have eN:=qh (show RI g w A0 A1 A2 n0 c0 n1 c1 n2 c2 B w3.heap.size zs ss 0 (w3.alloc (.map #[] 0)) from
    ⟨cW.out.step ((Below.refl _ _).alloc (Nat.le_refl _) _),Ei.out.below ((Below.refl _ _).alloc (Nat.le_refl _) _) Ei.out.lt,tu.made w3 ss,rI.out,Ei.out.lt⟩)
   have x0:=eN.out.box.b0;have x1:=eN.out.box.b1;have x2:=eN.out.box.b2;have hne:¬ g=w3.heap.size:=by have:=ql q0;have h9:g<w3.heap.size:=this;omega
   go_wp2
   clear hmm q0 q1 q2 x0 x1 x2 hne;generalize w3.heap.size=B2 at eN ⊢;generalize (w3.alloc (.map #[] 0))=w4 at eN ⊢;go_loopw [75] (fun v wr=>∃ (i:Nat),i<=n2/\v = .int .i64 (i:Int)/\Hid (RI g w A0 A1 A2 n0 c0 n1 c1 n2 c2 B B2 zs ss i wr)) (fun v _=>n2-(intOf v).toNat)
   case atStart=>exact⟨0,Nat.zero_le _,rfl,eN⟩
   case round =>
    obtain⟨i,ht,rfl,hI⟩:=hrel;have q0:=hI.out.box.b0;have q1:=hI.out.box.b1;have q2:=hI.out.box.b2;by_cases htn:i<n2
    ·have h1:decide ((i:Int)<(n2:Int))=true:=decide_eq_true qo
     have BV:((i:Int)<(n2:Int))=True:=eq_true qo;have h1c:(i<n2)=True:=eq_true htn;have gJ:=HA.out.below hI.out.box.below HG.out.symm;obtain⟨ad,rfl,s0,s1,s2⟩:=mF gJ.s (i:Int) qo (by rw[H2.out];omega);rw[Int.toNat_natCast]at s0 s1 s2
     have hs:=HM.out.s i (by rw[H2.out];exact htn);obtain⟨xa,jx⟩:∃ x,(bH ss i).f0=x:=⟨_,rfl⟩
     obtain⟨xb,jy⟩:∃ x,(bH ss i).f1=x:=⟨_,rfl⟩
     obtain⟨xc,mS⟩:∃ x,(bH ss i).f2=x:=⟨_,rfl⟩
     rw[jx,jy]at hs
     have Mw:(eC ss (i:Int)).f0=xa:=jx;have Mx:(eC ss (i:Int)).f1=xb:=jy;have My:(eC ss (i:Int)).f2=xc:=mS;rw[Mw]at s0
     rw[Mx]at s1
     rw[My]at s2
     have hin:(0<=xa/\xa<n0)/\(0<=xb/\xb<n0):=by
      rcases hs.1 with h|h
      ·exact HM.out.qg h
      ·exact⟨(HM.out.qg h).2,(HM.out.qg h).1⟩
     have wa:W6 xa:=vn hin.1.1 (by have:=HL.out;omega);have wb:W6 xb:=vn hin.2.1 (by have:=HL.out;omega);have ZQ:W6 (min xa xb):=vn qo (by have:=HL.out;omega);have ZR:W6 (max xa xb):=vn qo (by have:=HL.out;omega);have jF:=qh (fun W (hw:RI g w A0 A1 (some ad) n0 c0 n1 c1 n2 c2 B B2 zs ss i W)=>hw.mp.look wa wb);have gY:=qh (fun W (hw:RI g w A0 A1 (some ad) n0 c0 n1 c1 n2 c2 B B2 zs ss i W)=>hw.mp.look wb wa);have hsn:AX ss (min xa xb) (max xa xb) i=false:=ai' hs.2;have eG:=qh (fun W (hw:RI g w A0 A1 (some ad) n0 c0 n1 c1 n2 c2 B B2 zs ss i W)=>by have h9:=hw.sn.look ZQ ZR;rw[hsn]at h9;exact h9);have ir:=qh (fun W (hw:RI g w A0 A1 (some ad) n0 c0 n1 c1 n2 c2 B B2 zs ss i W)=>hw.sn.more (by have:=HL.out;unfold maxLen;omega) ZQ ZR (by rw[jx,jy]) (by rw[jx,jy]));have eR:=qh htn;have ZS:=hs.1;clear jx jy mS Mw Mx My gJ hs hin wa wb ZQ ZR hsn htn ht;obtain⟨t1,kT⟩:∃ x,sT (bV zs xa xb (3*n1))=x:=⟨_,rfl⟩
     obtain⟨k1,hk1⟩:∃ x,sK (bV zs xa xb (3*n1))=x:=⟨_,rfl⟩
     obtain⟨t2,ig⟩:∃ x,sT (bV zs xb xa (3*n1))=x:=⟨_,rfl⟩
     obtain⟨k2,hk2⟩:∃ x,sK (bV zs xb xa (3*n1))=x:=⟨_,rfl⟩
     obtain⟨b1,hb1⟩:∃ x,(bV zs xa xb (3*n1)).isSome=x:=⟨_,rfl⟩
     obtain⟨b2,hb2⟩:∃ x,(bV zs xb xa (3*n1)).isSome=x:=⟨_,rfl⟩
     rw[kT,hk1,hb1]at jF
     rw[ig,hk2,hb2]at gY
     rw[hb1,hb2]at ZS
     clear kT hk1 ig hk2 hb1 hb2;have SH:=qh ((hI.out.step ((Below.refl wr.heap.size wr).alloc (Nat.le_refl _) (.cells #[.int .i64 xa,.int .i64 xb,.bool xc] 55))).step ((Below.refl _ _).alloc (Nat.le_refl _) (.cells #[.int .i64 xa,.int .i64 xb] 66)));go_upto_region 20 with fail
     have d0:((wr.alloc (.cells #[.int .i64 xa,.int .i64 xb,.bool xc] 55)).alloc (.cells #[.int .i64 xa,.int .i64 xb] 66)).cell? ⟨wr.heap.size+1,0,none⟩=some (.int .i64 xa):=by simp[go_sem]
     have d1:((wr.alloc (.cells #[.int .i64 xa,.int .i64 xb,.bool xc] 55)).alloc (.cells #[.int .i64 xa,.int .i64 xb] 66)).cell? ⟨wr.heap.size+1,1,none⟩=some (.int .i64 xb):=by simp[go_sem]
     clear q0 q1 q2 s0 s1 s2 h1 BV h1c;generalize ((wr.alloc (.cells #[.int .i64 xa,.int .i64 xb,.bool xc] 55)).alloc (.cells #[.int .i64 xa,.int .i64 xb] 66))=W2 at d0 d1 SH ⊢;generalize wr.heap.size+1=h at d0 d1 ⊢;have lI:=qh (jF.out _ SH.out);have hlt:h<W2.heap.size:=ql d0;have cW:=qh ((Below.refl W2.heap.size W2).alloc (Nat.le_refl _) (.cells #[.int .i64 t1,.int .i64 k1] 70));have f0:=(cW.out.cell (ql d0)).trans d0;have f1:=(cW.out.cell (ql d1)).trans d1;have hne:¬ h=W2.heap.size:=by omega
     have iA:¬ W2.heap.size=h:=by omega
     have nK:(h<W2.heap.size)=True:=eq_true hlt;have HW3:=qh (SH.out.step cW.out);clear hlt;have vH:=qh (Qh xa xb (W2.alloc (.cells #[.int .i64 t1,.int .i64 k1] 70)));have auS:b1=true\/(b1=false/\b2=true):=by
      cases b1
      ·exact .inr ⟨rfl,by rcases ZS with h|h <;> first|exact h|cases h⟩
      ·exact .inl rfl
     clear ZS;go_wp2_with (at_lookup;refine EU _ rfl _ _ _ _ rfl _ _ _ rfl rfl lI.out ?_)
     refine vH.out.mono ?_;rintro e W4 ⟨rfl,hb⟩;have ZT:=qh (HW3.out.step hb);have d0:=(hb.cell (ql f0)).trans f0;have d1:=(hb.cell (ql f1)).trans f1;clear hb f0 f1 hne iA nK HW3 lI vH SH;have jz:=qh (gY.out _ ZT.out);have hlt:h<W4.heap.size:=ql d0;have jw:=qh ((Below.refl W4.heap.size W4).alloc (Nat.le_refl _) (.cells #[.int .i64 t2,.int .i64 k2] 70));have f0:=(jw.out.cell (ql d0)).trans d0;have f1:=(jw.out.cell (ql d1)).trans d1;have hne:¬ h=W4.heap.size:=by omega
     have iA:¬ W4.heap.size=h:=by omega
     have nK:(h<W4.heap.size)=True:=eq_true hlt;have HW5:=qh (ZT.out.step jw.out);clear hlt;have ZU:=qh (O9 xa xb (W4.alloc (.cells #[.int .i64 t2,.int .i64 k2] 70)));obtain⟨mn,hmn⟩:∃ x,min xa xb=x:=⟨_,rfl⟩
     obtain⟨mx,hmx⟩:∃ x,max xa xb=x:=⟨_,rfl⟩
     rw[hmn,hmx]at ZU
     rw[hmn,hmx]at eG
     rw[hmn,hmx]at ir
     have HMN:=qh hmn;have HMX:=qh hmx;clear hmn hmx;rcases auS with rfl|⟨rfl,rfl⟩
     all_goals
      go_wp2_with (at_lookup;refine EU _ rfl _ _ _ _ rfl _ _ _ rfl rfl jz.out ?_)
      refine ZU.out.mono ?_;rintro e W6 ⟨rfl,hb⟩;have ZV:=qh (HW5.out.step hb);have g0:=(hb.cell (ql f0)).trans f0;have g1:=(hb.cell (ql f1)).trans f1;clear hb f0 f1 hne iA nK HW5 jz ZU ZT d0 d1;have gX:=eG.out _ ZV.out;have ZW:=qh (O9 xa xb W6);rw[HMN.out,HMX.out]at ZW
      go_wp2_with fail
      refine ZW.out.mono ?_;rintro e W7 ⟨rfl,hb⟩;have HW7:=qh (ZV.out.step hb);have j0:=(hb.cell (ql g0)).trans g0;have j1:=(hb.cell (ql g1)).trans g1;clear hb g0 g1 gX ZW ZV;obtain⟨w9,hrun,wM,yf⟩:=ir.out _ HW7.out;have zy:=qh hrun;have HW9:=qh (HW7.out.put yf wM);clear hrun wM yf;go_wp2_with (at_mapUpdate;refine Qi _ rfl _ _ _ _ rfl _ _ _ w9 rfl rfl rfl zy.out ?_)
      have h8:=eR.out;have h9:=HL.out;rw[mK qo];exact⟨⟨i+1,by omega,rfl,HW9⟩,by show n2-(((i+1:Nat):Int)).toNat<n2-((i:Nat):Int).toNat;omega⟩
    ·have h1:decide ((i:Int)<(n2:Int))=false:=decide_eq_false qo
     have BV:decide (i<n2)=false:=decide_eq_false htn;have dx:=qh (show g<wr.heap.size from ql q0);have rC:=qh ((Below.refl wr.heap.size wr).alloc (Nat.le_refl _) (.cells #[.slice A0 n0 c0,.slice A1 n1 c1,.slice A2 n2 c2,.map (some B)] 74));go_wp2
     go_ret2
     exact⟨wr.heap.size,B,rfl,by rw[HG.out];exact Nat.le_of_lt dx.out,by rw[HG.out];exact Nat.le_of_lt hI.out.hB,hI.out.mp.below rC.out hI.out.mp.lt,by simp[go_sem],by simp[go_sem],by simp[go_sem],by simp[go_sem],by rw[HG.out];exact hI.out.box.below.alloc (Nat.le_of_lt dx.out) _⟩
def lG (p:Nat->Bool):Nat->Option Nat
 | 0=>none
 | m+1=>match lG p m with
  | some j=>some j
  | none=>if p m then some m else none
theorem Oy {p:Nat->Bool}:∀ {m:Nat},lG p m=none↔∀ j,j<m->p j=false:=by
 intro m;induction m with
 | zero=>exact⟨fun _ j hj=>absurd hj (Nat.not_lt_zero _),fun _=>rfl⟩
 | succ m ih =>
  unfold lG;constructor
  ·intro h j hj
   cases hf:lG p m with
   | some x=>rw[hf]at h;cases h
   | none =>
    rw[hf]at h
    cases hh:p m with
    | true=>simp[hh]at h
    | false =>
     rcases Nat.lt_succ_iff_lt_or_eq.1 hj with h1|h1
     ·exact ih.1 hf j h1
     ·subst h1;exact hh
  ·intro h
   rw[ih.2 (fun j hj=>h j qo)];simp[h m qo]
theorem acW {p:Nat->Bool} {j:Nat} (h:p j=true) (h0:∀ i,i<j->p i=false):∀ m,j<m->lG p m=some j:=by
 intro m;induction m with
 | zero=>intro hj;exact absurd hj (Nat.not_lt_zero _)
 | succ m ih =>
  intro hj;unfold lG;rcases Nat.lt_succ_iff_lt_or_eq.1 hj with h1|h1
  ·rw[ih h1]
  ·subst h1
   rw[Oy.2 h0];simp[h]
def oI (o:Option Nat):Int:=match o with|none => -1|some j=>(j:Int)
def lY (ss:SS) (a b:Int) (j:Nat):Bool:=decide (min (bH ss j).f0 (bH ss j).f1=min a b)&&decide (max (bH ss j).f0 (bH ss j).f1=max a b)
theorem acX {g h:Nat} {sa sb xa xb:Int} {w W W':World} (hbr:Below W.heap.size W W') (hS:W.cell? ⟨g,0,none⟩=some (.int .i64 sa)/\W.cell? ⟨g,1,none⟩=some (.int .i64 sb)/\W.cell? ⟨h,0,none⟩=some (.int .i64 xa)/\W.cell? ⟨h,1,none⟩=some (.int .i64 xb)/\Below g w W):W'.cell? ⟨g,0,none⟩=some (.int .i64 sa)/\W'.cell? ⟨g,1,none⟩=some (.int .i64 sb)/\W'.cell? ⟨h,0,none⟩=some (.int .i64 xa)/\W'.cell? ⟨h,1,none⟩=some (.int .i64 xb)/\Below g w W' :=
 ⟨(hbr.cell (ql hS.1)).trans hS.1,(hbr.cell (ql hS.2.1)).trans hS.2.1,(hbr.cell (ql hS.2.2.1)).trans hS.2.2.1,(hbr.cell (ql hS.2.2.2.1)).trans hS.2.2.2.1,hS.2.2.2.2.trans (hbr.mono (Nat.le_of_lt (ql hS.1)))⟩
theorem aog {g h:Nat} {sa sb xa xb:Int} {w W:World} (hS:W.cell? ⟨g,0,none⟩=some (.int .i64 sa)/\W.cell? ⟨g,1,none⟩=some (.int .i64 sb)/\W.cell? ⟨h,0,none⟩=some (.int .i64 xa)/\W.cell? ⟨h,1,none⟩=some (.int .i64 xb)/\Below g w W):W.drew.cell? ⟨g,0,none⟩=some (.int .i64 sa)/\W.drew.cell? ⟨g,1,none⟩=some (.int .i64 sb)/\W.drew.cell? ⟨h,0,none⟩=some (.int .i64 xa)/\W.drew.cell? ⟨h,1,none⟩=some (.int .i64 xb)/\Below g w W.drew:=⟨hS.1,hS.2.1,hS.2.2.1,hS.2.2.2.1,hS.2.2.2.2.drew⟩
theorem abb:∃ i,Tryz.prog.info? 3=some i:=Option.isSome_iff_exists.1 qk
theorem yI:Tryz.prog.plainKey 3=true:=by kernel_rfl
theorem eqE (d:Nat) (w:World) (a b c e:Int):(Op.equalIn (d+2) 66 (.agg #[Value.int .i64 a,Value.int .i64 b]) (.agg #[Value.int .i64 c,Value.int .i64 e])).run Tryz.prog w = .ok (a==c&&b==e) w:=by
 obtain⟨i,hi⟩:=abb;rw[run_equalIn_array w (d+1) _ _ Tryz.underlying66 hi,UZ,show List.range 2=[0,1] from rfl];have p0:=run_part_plain w yI (show(#[Value.int .i64 a,Value.int .i64 b])[0]?=some (.int .i64 a) from rfl);have q0:=run_part_plain w yI (show(#[Value.int .i64 c,Value.int .i64 e])[0]?=some (.int .i64 c) from rfl);have r0:=run_equalIn_int w d 3 .i64 .i64 a c Tryz.underlying3;have p1:=run_part_plain w yI (show(#[Value.int .i64 a,Value.int .i64 b])[1]?=some (.int .i64 b) from rfl);have q1:=run_part_plain w yI (show(#[Value.int .i64 c,Value.int .i64 e])[1]?=some (.int .i64 e) from rfl);have r1:=run_equalIn_int w d 3 .i64 .i64 b e Tryz.underlying3;simp only[Op.eqItems,Sem.run_bind,Nat.zero_mul,Nat.mul_one,p0,q0,r0,p1,q1,r1,Result.andThen_ok,Sem.run_pure];generalize (a==c)=b0 at *;generalize (b==e)=b1 at *;cases b0 <;> cases b1 <;> simp[Op.eqItems,p0,q0,r0,p1,q1,r1,Result.andThen_ok]
theorem eqT (d:Nat) (w:World) (a b x c e y:Int):(Op.equalIn (d+2) 61 (.agg #[Value.int .i64 a,Value.int .i64 b,Value.int .i64 x]) (.agg #[Value.int .i64 c,Value.int .i64 e,Value.int .i64 y])).run Tryz.prog w = .ok (a==c&&b==e&&x==y) w:=by
 obtain⟨i,hi⟩:=abb;rw[run_equalIn_array w (d+1) _ _ Tryz.underlying61 hi,UZ,show List.range 3=[0,1,2] from rfl];have p0:=run_part_plain w yI (show(#[Value.int .i64 a,Value.int .i64 b,Value.int .i64 x])[0]?=some (.int .i64 a) from rfl);have q0:=run_part_plain w yI (show(#[Value.int .i64 c,Value.int .i64 e,Value.int .i64 y])[0]?=some (.int .i64 c) from rfl);have r0:=run_equalIn_int w d 3 .i64 .i64 a c Tryz.underlying3;have p1:=run_part_plain w yI (show(#[Value.int .i64 a,Value.int .i64 b,Value.int .i64 x])[1]?=some (.int .i64 b) from rfl);have q1:=run_part_plain w yI (show(#[Value.int .i64 c,Value.int .i64 e,Value.int .i64 y])[1]?=some (.int .i64 e) from rfl);have r1:=run_equalIn_int w d 3 .i64 .i64 b e Tryz.underlying3;have p2:=run_part_plain w yI (show(#[Value.int .i64 a,Value.int .i64 b,Value.int .i64 x])[2]?=some (.int .i64 x) from rfl);have q2:=run_part_plain w yI (show(#[Value.int .i64 c,Value.int .i64 e,Value.int .i64 y])[2]?=some (.int .i64 y) from rfl);have r2:=run_equalIn_int w d 3 .i64 .i64 x y Tryz.underlying3;simp only[Op.eqItems,Sem.run_bind,Nat.zero_mul,Nat.mul_one,p0,q0,r0,p1,q1,r1,p2,q2,r2,Result.andThen_ok,Sem.run_pure];generalize (a==c)=b0 at *;generalize (b==e)=b1 at *;generalize (x==y)=b2 at *;cases b0 <;> cases b1 <;> cases b2 <;> simp[Op.eqItems,p0,q0,r0,p1,q1,r1,p2,q2,r2,Result.andThen_ok]
attribute [local go_sem high] eqE
theorem apG (h:Nat) (sa sb:Int) (sc:Bool) (xa xb:Int) (w:World) (d0:w.cell? ⟨h,0,none⟩=some (.int .i64 xa)) (d1:w.cell? ⟨h,1,none⟩=some (.int .i64 xb)) :
  Calls Tryz.prog 51 #[.agg #[.int .i64 sa,.int .i64 sb,.bool sc],.pointer (some ⟨h,0,none⟩)] w fun e w'=>e = .returned (.bool (decide (min sa sb=min xa xb)&&decide (max sa sb=max xa xb)))/\Below w.heap.size w w':=by
 have hb0:Below w.heap.size w (w.alloc (.cells #[.int .i64 sa,.int .i64 sb,.bool sc] 55)):=(Below.refl _ _).alloc (Nat.le_refl _) _
 have HS:=qh (show(w.alloc (.cells #[.int .i64 sa,.int .i64 sb,.bool sc] 55)).cell? ⟨w.heap.size,0,none⟩=some (.int .i64 sa)/\(w.alloc (.cells #[.int .i64 sa,.int .i64 sb,.bool sc] 55)).cell? ⟨w.heap.size,1,none⟩=some (.int .i64 sb)/\(w.alloc (.cells #[.int .i64 sa,.int .i64 sb,.bool sc] 55)).cell? ⟨h,0,none⟩=some (.int .i64 xa)/\(w.alloc (.cells #[.int .i64 sa,.int .i64 sb,.bool sc] 55)).cell? ⟨h,1,none⟩=some (.int .i64 xb)/\Below w.heap.size w (w.alloc (.cells #[.int .i64 sa,.int .i64 sb,.bool sc] 55)) from
  ⟨by simp[go_sem],by simp[go_sem],(hb0.cell (ql d0)).trans d0,(hb0.cell (ql d1)).trans d1,hb0⟩)
 clear hb0 d0 d1;have HP1:=qh (fun W=>O9 sa sb W);have HP2:=qh (fun W=>O9 xa xb W);obtain⟨y1,e1⟩:∃ x,min sa sb=x:=⟨_,rfl⟩
 obtain⟨y2,e2⟩:∃ x,max sa sb=x:=⟨_,rfl⟩
 obtain⟨y3,e3⟩:∃ x,min xa xb=x:=⟨_,rfl⟩
 obtain⟨y4,e4⟩:∃ x,max xa xb=x:=⟨_,rfl⟩
 rw[e1,e2]at HP1
 rw[e3,e4]at HP2
 rw[e1,e2,e3,e4];clear e1 e2 e3 e4;obtain⟨g,hg⟩:∃ g,w.heap.size=g:=⟨_,rfl⟩
 have HG:=qh hg;rw[hg]at HS
 go_enter Tryz.func51,Tryz.ntmps51;go_wp2
 clear hg;generalize (w.alloc (.cells #[.int .i64 sa,.int .i64 sb,.bool sc] 55))=W1 at HS ⊢;have dI:=HS.out;go_region_held3 (fun w'=>w'.cell? ⟨g,0,none⟩=some (.int .i64 sa)/\w'.cell? ⟨g,1,none⟩=some (.int .i64 sb)/\w'.cell? ⟨h,0,none⟩=some (.int .i64 xa)/\w'.cell? ⟨h,1,none⟩=some (.int .i64 xb)/\Below g w w') (first|assumption|exact aog (by assumption)) (first|(have hh:=hS1;clear hh;go_at_call 49;refine(HP2.out _).mono ?_;rintro e NU ⟨rfl,hbr⟩;have ZX:=acX hbr (by assumption);clear hbr)|(go_at_call 49;refine(HP1.out _).mono ?_;rintro e NU ⟨rfl,hbr⟩;have hS1:=acX hbr (by assumption);clear hbr))
 all_goals go_wp2
 all_goals go_ret
 all_goals exact⟨rfl,by rw[HG.out];first|exact ZX.2.2.2.2|exact ZX.2.2.2.2.drew⟩
theorem asr (h:Nat) (A2:Option Addr) (n2 c2:Nat) (ss:SS) (xa xb:Int) (w:World) (hp:Kd.C qi w A2 n2 ss) (hn2:ss.length=n2) (hl:n2<=100000) (d0:w.cell? ⟨h,0,none⟩=some (.int .i64 xa)) (d1:w.cell? ⟨h,1,none⟩=some (.int .i64 xb)) :
  Calls Tryz.prog 50 #[.slice A2 n2 c2,.func (.func 51) #[] #[.pointer (some ⟨h,0,none⟩)]] w fun e w'=>e = .returned (.int .i64 (oI (lG (lY ss xa xb) n2)))/\Below w.heap.size w w':=by
 have HP:=qh hp;have HL:=qh hl;have xS:=qh hn2;have D0:=qh d0;have D1:=qh d1;obtain⟨g,hg⟩:∃ g,w.heap.size=g:=⟨_,rfl⟩
 have HG:=qh hg;clear hp hl hn2 d0 d1 hg;go_enter Tryz.func50,Tryz.ntmps50;go_wp2
 go_loopw [8] (fun v wr=>∃ (i:Nat),i<=n2/\v = .int .i64 (i:Int)/\Hid (Below w.heap.size w wr)/\Hid (∀ j,j<i->lY ss xa xb j=false)) (fun v _=>n2-(intOf v).toNat)
 case atStart=>exact⟨0,Nat.zero_le _,rfl,qh (Below.refl _ _),qh (fun j hj=>absurd hj (Nat.not_lt_zero _))⟩
 case round =>
  obtain⟨i,ht,rfl,hI,hC⟩:=hrel;by_cases htn:i<n2
  ·have h1:decide ((i:Int)<(n2:Int))=true:=decide_eq_true qo
   have BV:((i:Int)<(n2:Int))=True:=eq_true qo;have h1c:(i<n2)=True:=eq_true htn;have gJ:=Kd.yM HP.out hI.out;obtain⟨ad,rfl,s0,s1,s2⟩:=mF gJ (i:Int) qo qo;rw[Int.toNat_natCast]at s0 s1 s2
   obtain⟨sa,jx⟩:∃ x,(bH ss i).f0=x:=⟨_,rfl⟩
   obtain⟨sb,jy⟩:∃ x,(bH ss i).f1=x:=⟨_,rfl⟩
   obtain⟨sc,mS⟩:∃ x,(bH ss i).f2=x:=⟨_,rfl⟩
   have hsm:lY ss xa xb i=(decide (min sa sb=min xa xb)&&decide (max sa sb=max xa xb)):=by unfold lY;rw[jx,jy]
   rw[show(eC ss (i:Int)).f0=sa from jx]at s0
   rw[show(eC ss (i:Int)).f1=sb from jy]at s1
   rw[show(eC ss (i:Int)).f2=sc from mS]at s2
   have uH:=qh (apG h sa sb sc xa xb wr ((hI.out.cell (ql D0.out)).trans D0.out) ((hI.out.cell (ql D1.out)).trans D1.out));rw[<- hsm]at uH
   have eR:=qh htn;clear jx jy mS hsm gJ htn ht;cases hb:lY ss xa xb i with
   | true =>
    rw[hb]at uH
    have HF:=qh (acW hb hC.out n2 eR.out);clear hb;go_wp2_with fail
    refine uH.out.mono ?_;rintro e w3 ⟨rfl,hb⟩;have cW:=qh (hI.out.trans (hb.mono hI.out.size));clear hb;go_wp2
    go_ret
    exact⟨by rw[HF.out];rfl,cW.out⟩
   | false =>
    rw[hb]at uH
    have HF:=qh hb;clear hb;go_wp2_with fail
    refine uH.out.mono ?_;rintro e w3 ⟨rfl,hb⟩;have cW:=qh (hI.out.trans (hb.mono hI.out.size));clear hb;go_wp2
    have h8:=eR.out;have h9:=HL.out;rw[mK qo];exact⟨⟨i+1,by omega,rfl,cW,qh (fun j hj=>by
     rcases Nat.lt_succ_iff_lt_or_eq.1 hj with h|h
     ·exact hC.out j h
     ·subst h;exact HF.out)⟩,by show n2-(((i+1:Nat):Int)).toNat<n2-((i:Nat):Int).toNat;omega⟩
  ·have h1:decide ((i:Int)<(n2:Int))=false:=decide_eq_false qo
   have BV:decide (i<n2)=false:=decide_eq_false htn;have HF:=qh (Oy.2 (fun j hj=>hC.out j qo):lG (lY ss xa xb) n2=none);go_wp2
   go_ret
   exact⟨by rw[HF.out];rfl,hI.out⟩
theorem acY (A0 A1 A2:Option Addr) (n0 c0 n1 c1 n2 c2:Nat) (ss:SS) (xa xb:Int) (w:World) (hp:Kd.C qi w A2 n2 ss) (hn2:ss.length=n2) (hl:n2<=100000) :
  Calls Tryz.prog 28 #[.agg #[.slice A0 n0 c0,.slice A1 n1 c1,.slice A2 n2 c2],.agg #[.int .i64 xa,.int .i64 xb]] w fun e w'=>e = .returned (.int .i64 (oI (lG (lY ss xa xb) n2)))/\Below w.heap.size w w':=by
 have hmf:∀ (fn:Fn) (first cap:Array Value) (w:World),(Instr.makeFunc fn first cap).run Tryz.prog w = .ok (.func fn first cap) w:=fun _ _ _ _=>rfl;have hb0:Below w.heap.size w ((w.alloc (.cells #[.slice A0 n0 c0,.slice A1 n1 c1,.slice A2 n2 c2] 26)).alloc (.cells #[.int .i64 xa,.int .i64 xb] 66)):=((Below.refl _ _).alloc (Nat.le_refl _) _).alloc (by simp) _;have HI:=qh (asr (w.heap.size+1) A2 n2 c2 ss xa xb _ (Kd.yM hp hb0) hn2 hl (by simp[go_sem]) (by simp[go_sem]));have HB:=qh hb0;clear hb0 hp;go_enter Tryz.func28,Tryz.ntmps28;go_wp2_with fail
 refine HI.out.mono ?_;rintro e w3 ⟨rfl,hb⟩;have cW:=qh (HB.out.trans (hb.mono (by simp;omega)));clear hb hmf;go_wp2
 go_ret
 exact⟨rfl,cW.out⟩
end Go.Proofs.YtfcjnhkkfmgmpaaGreat
