import Derived.Test.YtcmepkhjggpmeaaGreatZuG30
import Derived.ChangeKeysEq
set_option linter.all false
set_option maxRecDepth 100000
set_option maxHeartbeats 8000000
namespace Go.Proofs.YtcmepkhjggpmeaaGreat
open Go.RowKit aP Go.Maps Go.Proofs.aF.R Go.Proofs.aF.Z Go.Proofs.aD.aY
def J8:Value->Option (DataW Unit × List MemPlace)
 | .bool b=>some (.lit (.bool b),[])
 | _=>none
theorem Mp (b:Bool):J8 (.bool b)=some (.lit (.bool b),[]):=rfl
theorem XU {v:Value} {b:Bool} {ps:List MemPlace} (h:J8 v=some (.lit (.bool b),ps)):v = .bool b:=by
 unfold J8 at h;split at h
 ·rename_i b'
  have e:=congrArg Prod.fst (Option.some.inj h);simp at e;rw[e]
 ·cases h
def yX (ss:SS) (a b:Int):Nat->Bool
 | 0=>false
 | i+1=>yX ss a b i||(decide (min (bG ss i).f0 (bG ss i).f1=a)&&decide (max (bG ss i).f0 (bG ss i).f1=b))
theorem afu {ss:SS} {a b:Int}:∀ {i:Nat},(∀ j,j<i->¬ (min (bG ss j).f0 (bG ss j).f1=a/\max (bG ss j).f0 (bG ss j).f1=b))->yX ss a b i=false:=by
 intro i;induction i with
 | zero=>intro _;rfl
 | succ i ih =>
  intro h;unfold yX;rw[ih (fun j hj=>h j qo),Bool.false_or];have h1:=h i qo;by_cases e:min (bG ss i).f0 (bG ss i).f1=a
  ·have e2:¬ max (bG ss i).f0 (bG ss i).f1=b:=fun e2=>h1 ⟨e,e2⟩
   rw[decide_eq_false e2,Bool.and_false]
  ·rw[decide_eq_false e,Bool.false_and]
def rT (w:World) (B:Nat) (ss:SS) (i:Nat):Prop:=∃ D n,n<=i/\w.ownsMap Tryz.prog 73 J8 B n D/\∀ a b,W6 a->W6 b->D.atKey (ek a b) (.lit (.bool false)) = .lit (.bool (yX ss a b i))
theorem rT.lt {w:World} {B:Nat} {ss:SS} {m:Nat} (h:rT w B ss m):B<w.heap.size:=by
 obtain⟨D,n,hn,ho,h⟩:=h;exact ho.lt
theorem rT.block {w w':World} {B:Nat} {ss:SS} {m:Nat} (h:rT w B ss m) (hb:w'.heap[B]?=w.heap[B]?):rT w' B ss m:=by
 obtain⟨D,n,hn,⟨es,clock,h1,h2,h3,h4⟩,h⟩:=h;exact⟨D,n,hn,⟨es,clock,hb.trans h1,h2,h3,h4⟩,h⟩
theorem rT.made (w:World) (ss:SS):rT (w.alloc (.map #[] 0)) w.heap.size ss 0 :=
 ⟨_,0,Nat.le_refl _,World.ownsMap_made _ _ _ _,fun a b ha hb=>rfl⟩
theorem XV (w:World):(zeroValue 4).run Tryz.prog w = .ok (.bool false) w:=by kernel_rfl
theorem rT.look {w:World} {B:Nat} {ss:SS} {m:Nat} (h:rT w B ss m) {a b:Int} (ha:W6 a) (hb:W6 b) :
  (Instr.lookup 83 (.map (some B)) (.agg #[.int .i64 a,.int .i64 b]) false).run Tryz.prog w = .ok (.bool (yX ss a b m)) w:=by
 obtain⟨D,n,hn,ho,h⟩:=h;obtain⟨v,ps,hrun,hv⟩:=ho.lookup xk Tryz.underlying83 (XV w) (Mp false) (xE ha hb);rw[h a b ha hb]at hv
 rw[XU hv]at hrun
 exact hrun
theorem rT.more {w:World} {B:Nat} {ss:SS} {m:Nat} (h:rT w B ss m) (hm:m<maxLen) {a b:Int} (ha:W6 a) (hb:W6 b) (ea:min (bG ss m).f0 (bG ss m).f1=a) (eb:max (bG ss m).f0 (bG ss m).f1=b) :
  ∃ w',(Instr.mapUpdate 83 (.map (some B)) (.agg #[.int .i64 a,.int .i64 b]) (.bool true)).run Tryz.prog w = .ok () w'/\rT w' B ss (m+1)/\w.grownBy w' (some B):=by
 obtain⟨D,n,hn,ho,h⟩:=h;obtain⟨w',hrun,ho',hg⟩:=ho.update xk Tryz.underlying83 qo (xE ha hb) (Mp true);refine⟨w',hrun,⟨_,n+1,by omega,ho',fun c d hc hd=>?_⟩,hg⟩;by_cases he:a=c/\b=d
 ·obtain⟨rfl,rfl⟩:=he
  rw[atKey_put_same ho.isMap (NA ha hb)];unfold yX;rw[decide_eq_true ea,decide_eq_true eb];simp
 ·have hne:ek c d≠ek a b:=fun h=>he (by obtain⟨h1,h2⟩:=Nz hc hd ha hb h;exact⟨h1.symm,h2.symm⟩)
  rw[atKey_put_other hne,h c d hc hd];have e9:yX ss c d (m+1)=(yX ss c d m||(decide (min (bG ss m).f0 (bG ss m).f1=c)&&decide (max (bG ss m).f0 (bG ss m).f1=d))):=rfl;have:(decide (min (bG ss m).f0 (bG ss m).f1=c)&&decide (max (bG ss m).f0 (bG ss m).f1=d))=false:=by
   rw[ea,eb];by_cases e1:a=c
   ·have e2:¬ b=d:=fun e2=>he ⟨e1,e2⟩
    rw[decide_eq_false e2,Bool.and_false]
   ·rw[decide_eq_false e1,Bool.false_and]
  rw[e9,this,Bool.or_false]
structure n9 (n0:Nat) (zs:List Int) (n1:Nat) (ss:SS) (bn:Nat->Nat->Nat->Int):Prop where
 l0:n0<=400
 l1:n1<=900
 l2:ss.length<=1300
 c:∀ t,t<n1->uF bn n0 zs t=true
 d:∀ j,j<3*n1->bK zs (zs.getD j 0) (zs.getD (3*(j / 3)+nx (j%3)) 0) (3*n1)=some j
 s:∀ i,i<ss.length->((bK zs (bG ss i).f0 (bG ss i).f1 (3*n1)).isSome=true\/(bK zs (bG ss i).f1 (bG ss i).f0 (3*n1)).isSome=true)/\∀ j,j<i->¬ (min (bG ss j).f0 (bG ss j).f1=min (bG ss i).f0 (bG ss i).f1/\max (bG ss j).f0 (bG ss j).f1=max (bG ss i).f0 (bG ss i).f1)
theorem n9.inr {n0 n1:Nat} {zs:List Int} {ss:SS} {bn:Nat->Nat->Nat->Int} (h:n9 n0 zs n1 ss bn) {j:Nat} (hj:j<3*n1):0<=zs.getD j 0/\zs.getD j 0<n0:=by
 have hc:=h.c (j / 3) qo;unfold uF at hc;rw[Bool.and_eq_true]at hc
 obtain⟨h0,h1,h2⟩:=of_decide_eq_true hc.1;have:j%3=0\/j%3=1\/j%3=2:=by omega
 rcases this with e|e|e
 ·rw[show 3*(j / 3)=j by omega]at h0;exact h0
 ·rw[show 3*(j / 3)+1=j by omega]at h1;exact h1
 ·rw[show 3*(j / 3)+2=j by omega]at h2;exact h2
theorem uH {a:Int} (h0:0<=a) (h1:a<9000000000000000000):W6 a:=WalkArith.wf_i64 qo
theorem n9.w6 {n0 n1:Nat} {zs:List Int} {ss:SS} {bn:Nat->Nat->Nat->Int} (h:n9 n0 zs n1 ss bn) {j:Nat} (hj:j<3*n1):W6 (zs.getD j 0) :=
 uH (h.inr hj).1 (by have:=(h.inr hj).2;have:=h.l0;omega)
theorem n9.pG {n0 n1:Nat} {zs:List Int} {ss:SS} {bn:Nat->Nat->Nat->Int} (h:n9 n0 zs n1 ss bn) {a b:Int} (hf:(bK zs a b (3*n1)).isSome=true):(0<=a/\a<n0)/\(0<=b/\b<n0):=by
 obtain⟨j,hj⟩:=Option.isSome_iff_exists.1 hf;obtain⟨h1,⟨h2,h3⟩,-⟩:=FO hj;have i1:=h.inr h1;have i2:=h.inr (j:=3*(j / 3)+nx (j%3)) (by unfold nx;split <;> omega);rw[h2]at i1
 rw[h3]at i2
 exact⟨i1,i2⟩
structure RI (g:Nat) (w:World) (A0 A1 A2:Option Addr) (n0 c0 n1 c1 n2 c2 B B2:Nat) (zs:List Int) (ss:SS) (i:Nat) (wr:World):Prop where
 box:MB g w A0 A1 A2 n0 c0 n1 c1 n2 c2 wr
 mp:SMap wr B zs (3*n1)
 sn:rT wr B2 ss i
 hB:g<B
 AA:B<B2
theorem RI.step {g:Nat} {w:World} {A0 A1 A2:Option Addr} {n0 c0 n1 c1 n2 c2 B B2:Nat} {zs:List Int} {ss:SS} {i:Nat} {wr w2:World} (h:RI g w A0 A1 A2 n0 c0 n1 c1 n2 c2 B B2 zs ss i wr) (hb:Below wr.heap.size wr w2):RI g w A0 A1 A2 n0 c0 n1 c1 n2 c2 B B2 zs ss i w2 :=
 ⟨h.box.step hb,h.mp.block (hb.block _ h.mp.lt),h.sn.block (hb.block _ h.sn.lt),h.hB,h.AA⟩
theorem RI.put {g:Nat} {w:World} {A0 A1 A2:Option Addr} {n0 c0 n1 c1 n2 c2 B B2:Nat} {zs:List Int} {ss:SS} {i:Nat} {wr w2:World} (h:RI g w A0 A1 A2 n0 c0 n1 c1 n2 c2 B B2 zs ss i wr) (hg:wr.grownBy w2 (some B2)) (hm:rT w2 B2 ss (i+1)):RI g w A0 A1 A2 n0 c0 n1 c1 n2 c2 B B2 zs ss (i+1) w2:=by
 have hl:g<wr.heap.size:=ql h.box.b0;have h1:=h.hB;have h2:=h.AA;have hbg:w2.heap[g]?=wr.heap[g]?:=hg.block g hl (by intro e;injection e with e;omega);exact⟨⟨h.box.below.grown hg qo (fun k e=>by injection e with e;omega),(World.cell?_of_block (a:=⟨g,0,none⟩) hbg).trans h.box.b0,(World.cell?_of_block (a:=⟨g,1,none⟩) hbg).trans h.box.b1,(World.cell?_of_block (a:=⟨g,2,none⟩) hbg).trans h.box.b2⟩,h.mp.block (hg.block B h.mp.lt (by intro e;injection e with e;omega)),hm,h1,h2⟩
theorem alh {g h n0 c0 n1 c1 n2 c2:Nat} {i j k:Int} {w:World} {A0 A1 A2:Option Addr} {W W':World} (hbr:Below W.heap.size W W') (hS:W.cell? ⟨g,0,none⟩=some (.slice A0 n0 c0)/\W.cell? ⟨g,1,none⟩=some (.slice A1 n1 c1)/\W.cell? ⟨g,2,none⟩=some (.slice A2 n2 c2)/\W.cell? ⟨h,0,none⟩=some (.int .i64 i)/\W.cell? ⟨h,1,none⟩=some (.int .i64 j)/\W.cell? ⟨h,2,none⟩=some (.int .i64 k)/\Below g w W):W'.cell? ⟨g,0,none⟩=some (.slice A0 n0 c0)/\W'.cell? ⟨g,1,none⟩=some (.slice A1 n1 c1)/\W'.cell? ⟨g,2,none⟩=some (.slice A2 n2 c2)/\W'.cell? ⟨h,0,none⟩=some (.int .i64 i)/\W'.cell? ⟨h,1,none⟩=some (.int .i64 j)/\W'.cell? ⟨h,2,none⟩=some (.int .i64 k)/\Below g w W' :=
 ⟨(hbr.cell (ql hS.1)).trans hS.1,(hbr.cell (ql hS.2.1)).trans hS.2.1,(hbr.cell (ql hS.2.2.1)).trans hS.2.2.1,(hbr.cell (ql hS.2.2.2.1)).trans hS.2.2.2.1,(hbr.cell (ql hS.2.2.2.2.1)).trans hS.2.2.2.2.1,(hbr.cell (ql hS.2.2.2.2.2.1)).trans hS.2.2.2.2.2.1,hS.2.2.2.2.2.2.trans (hbr.mono (by have:=ql hS.1;exact Nat.le_of_lt this))⟩
theorem M_ {g h n0 c0 n1 c1 n2 c2:Nat} {i j k:Int} {w:World} {A0 A1 A2:Option Addr} {W:World} (hS:W.cell? ⟨g,0,none⟩=some (.slice A0 n0 c0)/\W.cell? ⟨g,1,none⟩=some (.slice A1 n1 c1)/\W.cell? ⟨g,2,none⟩=some (.slice A2 n2 c2)/\W.cell? ⟨h,0,none⟩=some (.int .i64 i)/\W.cell? ⟨h,1,none⟩=some (.int .i64 j)/\W.cell? ⟨h,2,none⟩=some (.int .i64 k)/\Below g w W):W.drew.cell? ⟨g,0,none⟩=some (.slice A0 n0 c0)/\W.drew.cell? ⟨g,1,none⟩=some (.slice A1 n1 c1)/\W.drew.cell? ⟨g,2,none⟩=some (.slice A2 n2 c2)/\W.drew.cell? ⟨h,0,none⟩=some (.int .i64 i)/\W.drew.cell? ⟨h,1,none⟩=some (.int .i64 j)/\W.drew.cell? ⟨h,2,none⟩=some (.int .i64 k)/\Below g w W.drew:=⟨hS.1,hS.2.1,hS.2.2.1,hS.2.2.2.1,hS.2.2.2.2.1,hS.2.2.2.2.2.1,hS.2.2.2.2.2.2.drew⟩
theorem abU {g h n0 c0 n1 c1 n2 c2:Nat} {i j k:Int} {w:World} {A0 A1 A2:Option Addr} {W:World} (hS:W.cell? ⟨g,0,none⟩=some (.slice A0 n0 c0)/\W.cell? ⟨g,1,none⟩=some (.slice A1 n1 c1)/\W.cell? ⟨g,2,none⟩=some (.slice A2 n2 c2)/\W.cell? ⟨h,0,none⟩=some (.int .i64 i)/\W.cell? ⟨h,1,none⟩=some (.int .i64 j)/\W.cell? ⟨h,2,none⟩=some (.int .i64 k)/\Below g w W):R3 W ⟨h,0,none⟩ i j k:=⟨hS.2.2.2.1,hS.2.2.2.2.1,hS.2.2.2.2.2.1⟩
theorem aam {g h n0 c0 n1 c1 n2 c2:Nat} {i j k:Int} {w:World} {A0 A1 A2:Option Addr} {W:World} (hS:W.cell? ⟨g,0,none⟩=some (.slice A0 n0 c0)/\W.cell? ⟨g,1,none⟩=some (.slice A1 n1 c1)/\W.cell? ⟨g,2,none⟩=some (.slice A2 n2 c2)/\W.cell? ⟨h,0,none⟩=some (.int .i64 i)/\W.cell? ⟨h,1,none⟩=some (.int .i64 j)/\W.cell? ⟨h,2,none⟩=some (.int .i64 k)/\Below g w W):Below g w W:=hS.2.2.2.2.2.2
theorem abV {g h n0 c0 n1 c1 n2 c2:Nat} {i j k:Int} {w:World} {A0 A1 A2:Option Addr} {W:World} (hS:W.cell? ⟨g,0,none⟩=some (.slice A0 n0 c0)/\W.cell? ⟨g,1,none⟩=some (.slice A1 n1 c1)/\W.cell? ⟨g,2,none⟩=some (.slice A2 n2 c2)/\W.cell? ⟨h,0,none⟩=some (.int .i64 i)/\W.cell? ⟨h,1,none⟩=some (.int .i64 j)/\W.cell? ⟨h,2,none⟩=some (.int .i64 k)/\Below g w W):MB g w A0 A1 A2 n0 c0 n1 c1 n2 c2 W:=⟨hS.2.2.2.2.2.2,hS.1,hS.2.1,hS.2.2.1⟩
theorem Mq (A0 A1 A2:Option Addr) (c0 n1 c1 c2:Nat) (ps:PS) (zs:List Int) (ss:SS) (w:World) (hA:ow w A0 A1 A2 c0 c2 ps zs n1 ss) (K:Nat) (hK:nB.f K ps=some 0) (bn:Nat->Nat->Nat->Int) (hO:CP K ps bn) (hM:n9 ps.length zs n1 ss bn) :
  Calls Tryz.prog 30 #[.agg #[.slice A0 ps.length c0,.slice A1 n1 c1,.slice A2 ss.length c2]] w fun e w'=>∃ kb B,e = .returned (.tuple #[.pointer (some ⟨kb,0,none⟩),.int .i64 0])/\w.heap.size<=kb/\w.heap.size<=B/\SMap w' B zs (3*n1)/\w'.cell? ⟨kb,0,none⟩=some (.slice A0 ps.length c0)/\w'.cell? ⟨kb,1,none⟩=some (.slice A1 n1 c1)/\w'.cell? ⟨kb,2,none⟩=some (.slice A2 ss.length c2)/\w'.cell? ⟨kb,3,none⟩=some (.map (some B))/\Below w.heap.size w w':=by
 obtain⟨n0,hn0⟩:∃ n,ps.length=n:=⟨_,rfl⟩
 obtain⟨n2,hn2⟩:∃ n,ss.length=n:=⟨_,rfl⟩
 have HB:=qh (MB.new w A0 A1 A2 n0 c0 n1 c1 n2 c2);have H0:=qh hn0;have H2:=qh hn2;have HA:=qh hA;have HK:=qh hK;have HO:=qh hO;rw[hn0]at hM
 have HM:=qh hM;have hl0:=hM.l0;have f_:=hM.l1;have hl2:=hM.l2;rw[hn2]at hl2
 have e0:decide ((400:Int)<(n0:Int))=false:=decide_eq_false qo;have e1:decide ((900:Int)<(n1:Int))=false:=decide_eq_false qo;have e2:decide ((1300:Int)<(n2:Int))=false:=decide_eq_false qo;have HL:=qh (show n0<=400/\n1<=900/\n2<=1300 from ⟨hl0,f_,hl2⟩);rw[hn0,hn2];clear hA hK hO hM hn0 hn2 hl0 f_ hl2;have q0:=HB.out.b0;have q1:=HB.out.b1;have q2:=HB.out.b2;have vu:=qh (nB.calls K A0 c0 ps 0 _ (HA.out.below HB.out.below rfl).p HA.out.pc HK.out);rw[H0.out]at vu
 obtain⟨g,hg⟩:∃ g,w.heap.size=g:=⟨_,rfl⟩
 have HG:=qh hg;go_enter Tryz.func30,Tryz.ntmps30;go_wp2_with fail
 refine vu.out.mono ?_;rintro e w2 ⟨rfl,hb⟩;have bV:=qh (HB.out.step (by first|exact hb|exact hb.below));clear hb q0 q1 q2 vu HB;rw[hg]at bV
 clear hg;have q0:=bV.out.b0;have q1:=bV.out.b1;have q2:=bV.out.b2;go_wp2
 clear q0 q1 q2;go_loopw [42] (fun v wr=>∃ (t:Nat),t<=n1/\v = .int .i64 (t:Int)/\Hid (MB g w A0 A1 A2 n0 c0 n1 c1 n2 c2 wr)) (fun v _=>n1-(intOf v).toNat)
 case atStart=>exact⟨0,Nat.zero_le _,rfl,bV⟩
 case round =>
  obtain⟨t,ht,rfl,hI⟩:=hrel;have q0:=hI.out.b0;have q1:=hI.out.b1;have q2:=hI.out.b2;by_cases htn:t<n1
  ·have h1:decide ((t:Int)<(n1:Int))=true:=decide_eq_true qo
   have h2:((t:Int)<(n1:Int))=True:=eq_true qo;have h3:(t<n1)=True:=eq_true htn;have h4:((0:Int)<=(t:Int))=True:=eq_true qo;have gA:=HA.out.below hI.out.below HG.out.symm;obtain⟨ad,rfl,hc⟩:=gA.t qo;have y0:=hc (t*3) qo;have y1:=hc (t*3+1) qo;have y2:=hc (t*3+2) qo;rw[uL _ _ _ qd]at y1 y2
   rw[show zs.getD (t*3) 0=zs.getD (3*t) 0 by rw[Nat.mul_comm]]at y0
   rw[show zs.getD (t*3+1) 0=zs.getD (3*t+1) 0 by rw[Nat.mul_comm]]at y1
   rw[show zs.getD (t*3+2) 0=zs.getD (3*t+2) 0 by rw[Nat.mul_comm]]at y2
   have hcc:=HM.out.c t htn;unfold uF at hcc;rw[Bool.and_eq_true]at hcc
   obtain⟨⟨i0,i1⟩,⟨j0,j1⟩,⟨k0,k1⟩⟩:=of_decide_eq_true hcc.1;have Io:=of_decide_eq_true hcc.2;clear hcc;obtain⟨i,hi⟩:∃ i:Nat,zs.getD (3*t) 0=(i:Int):=⟨_,(Int.toNat_of_nonneg i0).symm⟩
   obtain⟨j,hj⟩:∃ j:Nat,zs.getD (3*t+1) 0=(j:Int):=⟨_,(Int.toNat_of_nonneg j0).symm⟩
   obtain⟨k,hk⟩:∃ k:Nat,zs.getD (3*t+2) 0=(k:Int):=⟨_,(Int.toNat_of_nonneg k0).symm⟩
   rw[hi]at y0 i0 i1 Io
   rw[hj]at y1 j0 j1 Io
   rw[hk]at y2 k0 k1 Io
   rw[Int.toNat_natCast,Int.toNat_natCast,Int.toNat_natCast]at Io
   have AI:=qh (fun W (hb:Below g w W)=>Tg A0 (some ad) A2 n0 c0 n1 c1 n2 c2 ps W (by have:=(HA.out.below hb HG.out.symm).p;rw[H0.out]at this;exact this) H0.out K bn HO.out i j k qo qo qo);rw[show decide (0<bn i j k)=true from decide_eq_true Io]at AI
   have Wx:=qh (fun W (h9:R3 W ⟨wr.heap.size,0,none⟩ (i:Int) (j:Int) (k:Int))=>ahL n0 ⟨wr.heap.size,0,none⟩ 3 (i:Int) (j:Int) (k:Int) W h9);rw[show decide ((0:Int)<=min (i:Int) (min (j:Int) (k:Int)))=true from decide_eq_true qo,show decide (max (i:Int) (max (j:Int) (k:Int))<(n0:Int))=true from decide_eq_true qo,Bool.and_self]at Wx
   have HT:=qh htn;have bu:=qh (hI.out.step ((Below.refl wr.heap.size wr).alloc (Nat.le_refl _) (.cells #[.int .i64 (i:Int),.int .i64 (j:Int),.int .i64 (k:Int)] 69)));have HS:=qh (show(wr.alloc (.cells #[.int .i64 (i:Int),.int .i64 (j:Int),.int .i64 (k:Int)] 69)).cell? ⟨g,0,none⟩=some (.slice A0 n0 c0)/\(wr.alloc (.cells #[.int .i64 (i:Int),.int .i64 (j:Int),.int .i64 (k:Int)] 69)).cell? ⟨g,1,none⟩=some (.slice (some ad) n1 c1)/\(wr.alloc (.cells #[.int .i64 (i:Int),.int .i64 (j:Int),.int .i64 (k:Int)] 69)).cell? ⟨g,2,none⟩=some (.slice A2 n2 c2)/\(wr.alloc (.cells #[.int .i64 (i:Int),.int .i64 (j:Int),.int .i64 (k:Int)] 69)).cell? ⟨wr.heap.size,0,none⟩=some (.int .i64 (i:Int))/\(wr.alloc (.cells #[.int .i64 (i:Int),.int .i64 (j:Int),.int .i64 (k:Int)] 69)).cell? ⟨wr.heap.size,1,none⟩=some (.int .i64 (j:Int))/\(wr.alloc (.cells #[.int .i64 (i:Int),.int .i64 (j:Int),.int .i64 (k:Int)] 69)).cell? ⟨wr.heap.size,2,none⟩=some (.int .i64 (k:Int))/\Below g w (wr.alloc (.cells #[.int .i64 (i:Int),.int .i64 (j:Int),.int .i64 (k:Int)] 69)) from ⟨bu.out.b0,bu.out.b1,bu.out.b2,by simp[go_sem],by simp[go_sem],by simp[go_sem],bu.out.below⟩);clear hc gA hi hj hk Io i0 i1 j0 j1 k0 k1 htn ht;go_wp2
   generalize (wr.alloc (.cells #[.int .i64 (i:Int),.int .i64 (j:Int),.int .i64 (k:Int)] 69))=W1 at HS bu ⊢;generalize wr.heap.size=h at HS Wx ⊢;have cQ:=HS.out;clear q0 q1 q2 y0 y1 y2;go_region_held3 (fun w'=>w'.cell? ⟨g,0,none⟩=some (.slice A0 n0 c0)/\w'.cell? ⟨g,1,none⟩=some (.slice (some ad) n1 c1)/\w'.cell? ⟨g,2,none⟩=some (.slice A2 n2 c2)/\w'.cell? ⟨h,0,none⟩=some (.int .i64 (i:Int))/\w'.cell? ⟨h,1,none⟩=some (.int .i64 (j:Int))/\w'.cell? ⟨h,2,none⟩=some (.int .i64 (k:Int))/\Below g w w') (first|assumption|exact M_ (by assumption)) (first|(go_at_call 57;refine(Wx.out _ (by first|exact abU (by assumption)|exact abU (M_ (by assumption)))).mono ?_;rintro e Lp ⟨rfl,rfl⟩)|(go_at_call 46;refine(AI.out _ (by first|exact aam (by assumption)|exact aam (M_ (by assumption)))).mono ?_;rintro e Lp ⟨rfl,hbr⟩;have hS1:=alh hbr (by assumption);clear hbr))
   all_goals go_wp2
   all_goals (rw[kB (by have:=HT.out;have:=HL.out;omega)])
   all_goals exact⟨⟨t+1,by have:=HT.out;omega,rfl,qh (by first|exact abV hS1|exact abV (M_ hS1))⟩,by have:=HT.out;show n1-(((t+1:Nat):Int)).toNat<n1-((t:Nat):Int).toNat;omega⟩
  ·have h1:decide ((t:Int)<(n1:Int))=false:=decide_eq_false qo
   have CN:decide (t<n1)=false:=decide_eq_false htn;have E_:=qh (ahM A0 A1 A2 n0 c0 n1 c1 n2 c2 zs wr (HA.out.below hI.out.below HG.out.symm).t (by have:=HL.out;omega) (fun j hj=>HM.out.w6 hj) HM.out.d);clear htn ht;go_wp2_with fail
   refine E_.out.mono ?_;rintro e w3 ⟨B,rfl,hBB,hmp,hb⟩;have bX:=qh (hI.out.step hb);have Wy:=qh hmp;have Ip:=qh (show g<B by have:=ql q0;have h9:g<wr.heap.size:=this;omega);clear hb hmp hBB hI q0 q1 q2 h1 CN;have q0:=bX.out.b0;have q1:=bX.out.b1;have q2:=bX.out.b2;have hmm:=@run_makeMap Tryz.prog
   have dY:=qh (show RI g w A0 A1 A2 n0 c0 n1 c1 n2 c2 B w3.heap.size zs ss 0 (w3.alloc (.map #[] 0)) from
    ⟨bX.out.step ((Below.refl _ _).alloc (Nat.le_refl _) _),Wy.out.below ((Below.refl _ _).alloc (Nat.le_refl _) _) Wy.out.lt,rT.made w3 ss,Ip.out,Wy.out.lt⟩)
   have x0:=dY.out.box.b0;have x1:=dY.out.box.b1;have x2:=dY.out.box.b2;have hne:¬ g=w3.heap.size:=by have:=ql q0;have h9:g<w3.heap.size:=this;omega
   go_wp2
   clear hmm q0 q1 q2 x0 x1 x2 hne;generalize w3.heap.size=B2 at dY ⊢;generalize (w3.alloc (.map #[] 0))=w4 at dY ⊢;go_loopw [75] (fun v wr=>∃ (i:Nat),i<=n2/\v = .int .i64 (i:Int)/\Hid (RI g w A0 A1 A2 n0 c0 n1 c1 n2 c2 B B2 zs ss i wr)) (fun v _=>n2-(intOf v).toNat)
   case atStart=>exact⟨0,Nat.zero_le _,rfl,dY⟩
   case round =>
    obtain⟨i,ht,rfl,hI⟩:=hrel;have q0:=hI.out.box.b0;have q1:=hI.out.box.b1;have q2:=hI.out.box.b2;by_cases htn:i<n2
    ·have h1:decide ((i:Int)<(n2:Int))=true:=decide_eq_true qo
     have CN:((i:Int)<(n2:Int))=True:=eq_true qo;have h1c:(i<n2)=True:=eq_true htn;have gA:=HA.out.below hI.out.box.below HG.out.symm;obtain⟨ad,rfl,s0,s1,s2⟩:=pN gA.s (i:Int) qo (by rw[H2.out];omega);rw[Int.toNat_natCast]at s0 s1 s2
     have hs:=HM.out.s i (by rw[H2.out];exact htn);obtain⟨xa,iR⟩:∃ x,(bG ss i).f0=x:=⟨_,rfl⟩
     obtain⟨xb,iT⟩:∃ x,(bG ss i).f1=x:=⟨_,rfl⟩
     obtain⟨xc,lX⟩:∃ x,(bG ss i).f2=x:=⟨_,rfl⟩
     rw[iR,iT]at hs
     have Kk:(kJ ss (i:Int)).f0=xa:=iR;have Kl:(kJ ss (i:Int)).f1=xb:=iT;have Km:(kJ ss (i:Int)).f2=xc:=lX;rw[Kk]at s0
     rw[Kl]at s1
     rw[Km]at s2
     have hin:(0<=xa/\xa<n0)/\(0<=xb/\xb<n0):=by
      rcases hs.1 with h|h
      ·exact HM.out.pG h
      ·exact⟨(HM.out.pG h).2,(HM.out.pG h).1⟩
     have wa:W6 xa:=uH hin.1.1 (by have:=HL.out;omega);have wb:W6 xb:=uH hin.2.1 (by have:=HL.out;omega);have Wz:W6 (min xa xb):=uH qo (by have:=HL.out;omega);have WA:W6 (max xa xb):=uH qo (by have:=HL.out;omega);have pH:=qh (fun W (hw:RI g w A0 A1 (some ad) n0 c0 n1 c1 n2 c2 B B2 zs ss i W)=>hw.mp.look wa wb);have jA:=qh (fun W (hw:RI g w A0 A1 (some ad) n0 c0 n1 c1 n2 c2 B B2 zs ss i W)=>hw.mp.look wb wa);have x_:yX ss (min xa xb) (max xa xb) i=false:=afu hs.2;have iZ:=qh (fun W (hw:RI g w A0 A1 (some ad) n0 c0 n1 c1 n2 c2 B B2 zs ss i W)=>by have h9:=hw.sn.look Wz WA;rw[x_]at h9;exact h9);have mI:=qh (fun W (hw:RI g w A0 A1 (some ad) n0 c0 n1 c1 n2 c2 B B2 zs ss i W)=>hw.sn.more (by have:=HL.out;unfold maxLen;omega) Wz WA (by rw[iR,iT]) (by rw[iR,iT]));have dR:=qh htn;have WB:=hs.1;clear iR iT lX Kk Kl Km gA hs hin wa wb Wz WA x_ htn ht;obtain⟨t1,ht1⟩:∃ x,sT (bK zs xa xb (3*n1))=x:=⟨_,rfl⟩
     obtain⟨k1,hk1⟩:∃ x,sK (bK zs xa xb (3*n1))=x:=⟨_,rfl⟩
     obtain⟨t2,ht2⟩:∃ x,sT (bK zs xb xa (3*n1))=x:=⟨_,rfl⟩
     obtain⟨k2,hk2⟩:∃ x,sK (bK zs xb xa (3*n1))=x:=⟨_,rfl⟩
     obtain⟨b1,hb1⟩:∃ x,(bK zs xa xb (3*n1)).isSome=x:=⟨_,rfl⟩
     obtain⟨b2,hb2⟩:∃ x,(bK zs xb xa (3*n1)).isSome=x:=⟨_,rfl⟩
     rw[ht1,hk1,hb1]at pH
     rw[ht2,hk2,hb2]at jA
     rw[hb1,hb2]at WB
     clear ht1 hk1 ht2 hk2 hb1 hb2;have PU:=qh ((hI.out.step ((Below.refl wr.heap.size wr).alloc (Nat.le_refl _) (.cells #[.int .i64 xa,.int .i64 xb,.bool xc] 65))).step ((Below.refl _ _).alloc (Nat.le_refl _) (.cells #[.int .i64 xa,.int .i64 xb] 73)));go_upto_region 20 with fail
     have d0:((wr.alloc (.cells #[.int .i64 xa,.int .i64 xb,.bool xc] 65)).alloc (.cells #[.int .i64 xa,.int .i64 xb] 73)).cell? ⟨wr.heap.size+1,0,none⟩=some (.int .i64 xa):=by simp[go_sem]
     have d1:((wr.alloc (.cells #[.int .i64 xa,.int .i64 xb,.bool xc] 65)).alloc (.cells #[.int .i64 xa,.int .i64 xb] 73)).cell? ⟨wr.heap.size+1,1,none⟩=some (.int .i64 xb):=by simp[go_sem]
     clear q0 q1 q2 s0 s1 s2 h1 CN h1c;generalize ((wr.alloc (.cells #[.int .i64 xa,.int .i64 xb,.bool xc] 65)).alloc (.cells #[.int .i64 xa,.int .i64 xb] 73))=W2 at d0 d1 PU ⊢;generalize wr.heap.size+1=h at d0 d1 ⊢;have kC:=qh (pH.out _ PU.out);have hlt:h<W2.heap.size:=ql d0;have bX:=qh ((Below.refl W2.heap.size W2).alloc (Nat.le_refl _) (.cells #[.int .i64 t1,.int .i64 k1] 77));have f0:=(bX.out.cell (ql d0)).trans d0;have f1:=(bX.out.cell (ql d1)).trans d1;have hne:¬ h=W2.heap.size:=by omega
     have gK:¬ W2.heap.size=h:=by omega
     have mD:(h<W2.heap.size)=True:=eq_true hlt;have HW3:=qh (PU.out.step bX.out);clear hlt;have xV:=qh (S_ xa xb (W2.alloc (.cells #[.int .i64 t1,.int .i64 k1] 77)));have arH:b1=true\/(b1=false/\b2=true):=by
      cases b1
      ·exact .inr ⟨rfl,by rcases WB with h|h <;> first|exact h|cases h⟩
      ·exact .inl rfl
     clear WB;go_wp2_with (at_lookup;refine yA _ rfl _ _ _ _ rfl _ _ _ rfl rfl kC.out ?_)
     refine xV.out.mono ?_;rintro e W4 ⟨rfl,hb⟩;have WC:=qh (HW3.out.step hb);have d0:=(hb.cell (ql f0)).trans f0;have d1:=(hb.cell (ql f1)).trans f1;clear hb f0 f1 hne gK mD HW3 kC xV PU;have iU:=qh (jA.out _ WC.out);have hlt:h<W4.heap.size:=ql d0;have kE:=qh ((Below.refl W4.heap.size W4).alloc (Nat.le_refl _) (.cells #[.int .i64 t2,.int .i64 k2] 77));have f0:=(kE.out.cell (ql d0)).trans d0;have f1:=(kE.out.cell (ql d1)).trans d1;have hne:¬ h=W4.heap.size:=by omega
     have gK:¬ W4.heap.size=h:=by omega
     have mD:(h<W4.heap.size)=True:=eq_true hlt;have LG:=qh (WC.out.step kE.out);clear hlt;have WD:=qh (Jc xa xb (W4.alloc (.cells #[.int .i64 t2,.int .i64 k2] 77)));obtain⟨mn,hmn⟩:∃ x,min xa xb=x:=⟨_,rfl⟩
     obtain⟨mx,hmx⟩:∃ x,max xa xb=x:=⟨_,rfl⟩
     rw[hmn,hmx]at WD
     rw[hmn,hmx]at iZ
     rw[hmn,hmx]at mI
     have HMN:=qh hmn;have HMX:=qh hmx;clear hmn hmx;rcases arH with rfl|⟨rfl,rfl⟩
     all_goals
      go_wp2_with (at_lookup;refine yA _ rfl _ _ _ _ rfl _ _ _ rfl rfl iU.out ?_)
      refine WD.out.mono ?_;rintro e W6 ⟨rfl,hb⟩;have Fj:=qh (LG.out.step hb);have g0:=(hb.cell (ql f0)).trans f0;have g1:=(hb.cell (ql f1)).trans f1;clear hb f0 f1 hne gK mD LG iU WD WC d0 d1;have gw:=iZ.out _ Fj.out;have WE:=qh (Jc xa xb W6);rw[HMN.out,HMX.out]at WE
      go_wp2_with fail
      refine WE.out.mono ?_;rintro e W7 ⟨rfl,hb⟩;have HW7:=qh (Fj.out.step hb);have j0:=(hb.cell (ql g0)).trans g0;have j1:=(hb.cell (ql g1)).trans g1;clear hb g0 g1 gw WE Fj;obtain⟨w9,hrun,vk,wS⟩:=mI.out _ HW7.out;have uR:=qh hrun;have PV:=qh (HW7.out.put wS vk);clear hrun vk wS;go_wp2_with (at_mapUpdate;refine JE _ rfl _ _ _ _ rfl _ _ _ w9 rfl rfl rfl uR.out ?_)
      have h8:=dR.out;have h9:=HL.out;rw[kB qo];exact⟨⟨i+1,by omega,rfl,PV⟩,by show n2-(((i+1:Nat):Int)).toNat<n2-((i:Nat):Int).toNat;omega⟩
    ·have h1:decide ((i:Int)<(n2:Int))=false:=decide_eq_false qo
     have CN:decide (i<n2)=false:=decide_eq_false htn;have dM:=qh (show g<wr.heap.size from ql q0);have qI:=qh ((Below.refl wr.heap.size wr).alloc (Nat.le_refl _) (.cells #[.slice A0 n0 c0,.slice A1 n1 c1,.slice A2 n2 c2,.map (some B)] 81));go_wp2
     go_ret2
     exact⟨wr.heap.size,B,rfl,by rw[HG.out];exact Nat.le_of_lt dM.out,by rw[HG.out];exact Nat.le_of_lt hI.out.hB,hI.out.mp.below qI.out hI.out.mp.lt,by simp[go_sem],by simp[go_sem],by simp[go_sem],by simp[go_sem],by rw[HG.out];exact hI.out.box.below.alloc (Nat.le_of_lt dM.out) _⟩
def nT (p:Nat->Bool):Nat->Option Nat
 | 0=>none
 | m+1=>match nT p m with
  | some j=>some j
  | none=>if p m then some m else none
theorem Mi {p:Nat->Bool}:∀ {m:Nat},nT p m=none↔∀ j,j<m->p j=false:=by
 intro m;induction m with
 | zero=>exact⟨fun _ j hj=>absurd hj (Nat.not_lt_zero _),fun _=>rfl⟩
 | succ m ih =>
  unfold nT;constructor
  ·intro h j hj
   cases hf:nT p m with
   | some x=>rw[hf]at h;cases h
   | none =>
    rw[hf]at h
    cases hh:p m with
    | true=>simp[hh]at h
    | false =>
     rcases Nat.lt_succ_iff_lt_or_eq.1 hj with h1|h1
     ·exact ih.1 hf j h1
     ·subst h1;exact hh
  ·intro h
   rw[ih.2 (fun j hj=>h j qo)];simp[h m qo]
theorem ZO {p:Nat->Bool} {j:Nat} (h:p j=true) (h0:∀ i,i<j->p i=false):∀ m,j<m->nT p m=some j:=by
 intro m;induction m with
 | zero=>intro hj;exact absurd hj (Nat.not_lt_zero _)
 | succ m ih =>
  intro hj;unfold nT;rcases Nat.lt_succ_iff_lt_or_eq.1 hj with h1|h1
  ·rw[ih h1]
  ·subst h1
   rw[Mi.2 h0];simp[h]
def oI (o:Option Nat):Int:=match o with|none => -1|some j=>(j:Int)
def nA (ss:SS) (a b:Int) (j:Nat):Bool:=decide (min (bG ss j).f0 (bG ss j).f1=min a b)&&decide (max (bG ss j).f0 (bG ss j).f1=max a b)
theorem ZP {g h:Nat} {sa sb xa xb:Int} {w W W':World} (hbr:Below W.heap.size W W') (hS:W.cell? ⟨g,0,none⟩=some (.int .i64 sa)/\W.cell? ⟨g,1,none⟩=some (.int .i64 sb)/\W.cell? ⟨h,0,none⟩=some (.int .i64 xa)/\W.cell? ⟨h,1,none⟩=some (.int .i64 xb)/\Below g w W):W'.cell? ⟨g,0,none⟩=some (.int .i64 sa)/\W'.cell? ⟨g,1,none⟩=some (.int .i64 sb)/\W'.cell? ⟨h,0,none⟩=some (.int .i64 xa)/\W'.cell? ⟨h,1,none⟩=some (.int .i64 xb)/\Below g w W' :=
 ⟨(hbr.cell (ql hS.1)).trans hS.1,(hbr.cell (ql hS.2.1)).trans hS.2.1,(hbr.cell (ql hS.2.2.1)).trans hS.2.2.1,(hbr.cell (ql hS.2.2.2.1)).trans hS.2.2.2.1,hS.2.2.2.2.trans (hbr.mono (Nat.le_of_lt (ql hS.1)))⟩
theorem ali {g h:Nat} {sa sb xa xb:Int} {w W:World} (hS:W.cell? ⟨g,0,none⟩=some (.int .i64 sa)/\W.cell? ⟨g,1,none⟩=some (.int .i64 sb)/\W.cell? ⟨h,0,none⟩=some (.int .i64 xa)/\W.cell? ⟨h,1,none⟩=some (.int .i64 xb)/\Below g w W):W.drew.cell? ⟨g,0,none⟩=some (.int .i64 sa)/\W.drew.cell? ⟨g,1,none⟩=some (.int .i64 sb)/\W.drew.cell? ⟨h,0,none⟩=some (.int .i64 xa)/\W.drew.cell? ⟨h,1,none⟩=some (.int .i64 xb)/\Below g w W.drew:=⟨hS.1,hS.2.1,hS.2.2.1,hS.2.2.2.1,hS.2.2.2.2.drew⟩
theorem RJ:∃ i,Tryz.prog.info? 3=some i:=Option.isSome_iff_exists.1 qk
theorem sI:Tryz.prog.plainKey 3=true:=by kernel_rfl
theorem eqE (d:Nat) (w:World) (a b c e:Int):(Op.equalIn (d+2) 73 (.agg #[Value.int .i64 a,Value.int .i64 b]) (.agg #[Value.int .i64 c,Value.int .i64 e])).run Tryz.prog w = .ok (a==c&&b==e) w:=by
 obtain⟨i,hi⟩:=RJ;rw[run_equalIn_array w (d+1) _ _ Tryz.underlying73 hi,IW,show List.range 2=[0,1] from rfl];have p0:=run_part_plain w sI (show(#[Value.int .i64 a,Value.int .i64 b])[0]?=some (.int .i64 a) from rfl);have q0:=run_part_plain w sI (show(#[Value.int .i64 c,Value.int .i64 e])[0]?=some (.int .i64 c) from rfl);have r0:=run_equalIn_int w d 3 .i64 .i64 a c Tryz.underlying3;have p1:=run_part_plain w sI (show(#[Value.int .i64 a,Value.int .i64 b])[1]?=some (.int .i64 b) from rfl);have q1:=run_part_plain w sI (show(#[Value.int .i64 c,Value.int .i64 e])[1]?=some (.int .i64 e) from rfl);have r1:=run_equalIn_int w d 3 .i64 .i64 b e Tryz.underlying3;simp only[Op.eqItems,Sem.run_bind,Nat.zero_mul,Nat.mul_one,p0,q0,r0,p1,q1,r1,Result.andThen_ok,Sem.run_pure];generalize (a==c)=b0 at *;generalize (b==e)=b1 at *;cases b0 <;> cases b1 <;> simp[Op.eqItems,p0,q0,r0,p1,q1,r1,Result.andThen_ok]
theorem eqT (d:Nat) (w:World) (a b x c e y:Int):(Op.equalIn (d+2) 69 (.agg #[Value.int .i64 a,Value.int .i64 b,Value.int .i64 x]) (.agg #[Value.int .i64 c,Value.int .i64 e,Value.int .i64 y])).run Tryz.prog w = .ok (a==c&&b==e&&x==y) w:=by
 obtain⟨i,hi⟩:=RJ;rw[run_equalIn_array w (d+1) _ _ Tryz.underlying69 hi,IW,show List.range 3=[0,1,2] from rfl];have p0:=run_part_plain w sI (show(#[Value.int .i64 a,Value.int .i64 b,Value.int .i64 x])[0]?=some (.int .i64 a) from rfl);have q0:=run_part_plain w sI (show(#[Value.int .i64 c,Value.int .i64 e,Value.int .i64 y])[0]?=some (.int .i64 c) from rfl);have r0:=run_equalIn_int w d 3 .i64 .i64 a c Tryz.underlying3;have p1:=run_part_plain w sI (show(#[Value.int .i64 a,Value.int .i64 b,Value.int .i64 x])[1]?=some (.int .i64 b) from rfl);have q1:=run_part_plain w sI (show(#[Value.int .i64 c,Value.int .i64 e,Value.int .i64 y])[1]?=some (.int .i64 e) from rfl);have r1:=run_equalIn_int w d 3 .i64 .i64 b e Tryz.underlying3;have p2:=run_part_plain w sI (show(#[Value.int .i64 a,Value.int .i64 b,Value.int .i64 x])[2]?=some (.int .i64 x) from rfl);have q2:=run_part_plain w sI (show(#[Value.int .i64 c,Value.int .i64 e,Value.int .i64 y])[2]?=some (.int .i64 y) from rfl);have r2:=run_equalIn_int w d 3 .i64 .i64 x y Tryz.underlying3;simp only[Op.eqItems,Sem.run_bind,Nat.zero_mul,Nat.mul_one,p0,q0,r0,p1,q1,r1,p2,q2,r2,Result.andThen_ok,Sem.run_pure];generalize (a==c)=b0 at *;generalize (b==e)=b1 at *;generalize (x==y)=b2 at *;cases b0 <;> cases b1 <;> cases b2 <;> simp[Op.eqItems,p0,q0,r0,p1,q1,r1,p2,q2,r2,Result.andThen_ok]
attribute [local go_sem high] eqE
theorem amp (h:Nat) (sa sb:Int) (sc:Bool) (xa xb:Int) (w:World) (d0:w.cell? ⟨h,0,none⟩=some (.int .i64 xa)) (d1:w.cell? ⟨h,1,none⟩=some (.int .i64 xb)) :
  Calls Tryz.prog 76 #[.agg #[.int .i64 sa,.int .i64 sb,.bool sc],.pointer (some ⟨h,0,none⟩)] w fun e w'=>e = .returned (.bool (decide (min sa sb=min xa xb)&&decide (max sa sb=max xa xb)))/\Below w.heap.size w w':=by
 have hb0:Below w.heap.size w (w.alloc (.cells #[.int .i64 sa,.int .i64 sb,.bool sc] 65)):=(Below.refl _ _).alloc (Nat.le_refl _) _
 have HS:=qh (show(w.alloc (.cells #[.int .i64 sa,.int .i64 sb,.bool sc] 65)).cell? ⟨w.heap.size,0,none⟩=some (.int .i64 sa)/\(w.alloc (.cells #[.int .i64 sa,.int .i64 sb,.bool sc] 65)).cell? ⟨w.heap.size,1,none⟩=some (.int .i64 sb)/\(w.alloc (.cells #[.int .i64 sa,.int .i64 sb,.bool sc] 65)).cell? ⟨h,0,none⟩=some (.int .i64 xa)/\(w.alloc (.cells #[.int .i64 sa,.int .i64 sb,.bool sc] 65)).cell? ⟨h,1,none⟩=some (.int .i64 xb)/\Below w.heap.size w (w.alloc (.cells #[.int .i64 sa,.int .i64 sb,.bool sc] 65)) from
  ⟨by simp[go_sem],by simp[go_sem],(hb0.cell (ql d0)).trans d0,(hb0.cell (ql d1)).trans d1,hb0⟩)
 clear hb0 d0 d1;have HP1:=qh (fun W=>Jc sa sb W);have HP2:=qh (fun W=>Jc xa xb W);obtain⟨y1,e1⟩:∃ x,min sa sb=x:=⟨_,rfl⟩
 obtain⟨y2,e2⟩:∃ x,max sa sb=x:=⟨_,rfl⟩
 obtain⟨y3,e3⟩:∃ x,min xa xb=x:=⟨_,rfl⟩
 obtain⟨y4,e4⟩:∃ x,max xa xb=x:=⟨_,rfl⟩
 rw[e1,e2]at HP1
 rw[e3,e4]at HP2
 rw[e1,e2,e3,e4];clear e1 e2 e3 e4;obtain⟨g,hg⟩:∃ g,w.heap.size=g:=⟨_,rfl⟩
 have HG:=qh hg;rw[hg]at HS
 go_enter Tryz.func76,Tryz.ntmps76;go_wp2
 clear hg;generalize (w.alloc (.cells #[.int .i64 sa,.int .i64 sb,.bool sc] 65))=W1 at HS ⊢;have cQ:=HS.out;go_region_held3 (fun w'=>w'.cell? ⟨g,0,none⟩=some (.int .i64 sa)/\w'.cell? ⟨g,1,none⟩=some (.int .i64 sb)/\w'.cell? ⟨h,0,none⟩=some (.int .i64 xa)/\w'.cell? ⟨h,1,none⟩=some (.int .i64 xb)/\Below g w w') (first|assumption|exact ali (by assumption)) (first|(have hh:=hS1;clear hh;go_at_call 33;refine(HP2.out _).mono ?_;rintro e Lp ⟨rfl,hbr⟩;have WG:=ZP hbr (by assumption);clear hbr)|(go_at_call 33;refine(HP1.out _).mono ?_;rintro e Lp ⟨rfl,hbr⟩;have hS1:=ZP hbr (by assumption);clear hbr))
 all_goals go_wp2
 all_goals go_ret
 all_goals exact⟨rfl,by rw[HG.out];first|exact WG.2.2.2.2|exact WG.2.2.2.2.drew⟩
theorem apv (h:Nat) (A2:Option Addr) (n2 c2:Nat) (ss:SS) (xa xb:Int) (w:World) (hp:Kd.C tZ w A2 n2 ss) (hn2:ss.length=n2) (hl:n2<=100000) (d0:w.cell? ⟨h,0,none⟩=some (.int .i64 xa)) (d1:w.cell? ⟨h,1,none⟩=some (.int .i64 xb)) :
  Calls Tryz.prog 75 #[.slice A2 n2 c2,.func (.func 76) #[] #[.pointer (some ⟨h,0,none⟩)]] w fun e w'=>e = .returned (.int .i64 (oI (nT (nA ss xa xb) n2)))/\Below w.heap.size w w':=by
 have HP:=qh hp;have HL:=qh hl;have wG:=qh hn2;have D0:=qh d0;have D1:=qh d1;obtain⟨g,hg⟩:∃ g,w.heap.size=g:=⟨_,rfl⟩
 have HG:=qh hg;clear hp hl hn2 d0 d1 hg;go_enter Tryz.func75,Tryz.ntmps75;go_wp2
 go_loopw [8] (fun v wr=>∃ (i:Nat),i<=n2/\v = .int .i64 (i:Int)/\Hid (Below w.heap.size w wr)/\Hid (∀ j,j<i->nA ss xa xb j=false)) (fun v _=>n2-(intOf v).toNat)
 case atStart=>exact⟨0,Nat.zero_le _,rfl,qh (Below.refl _ _),qh (fun j hj=>absurd hj (Nat.not_lt_zero _))⟩
 case round =>
  obtain⟨i,ht,rfl,hI,hC⟩:=hrel;by_cases htn:i<n2
  ·have h1:decide ((i:Int)<(n2:Int))=true:=decide_eq_true qo
   have CN:((i:Int)<(n2:Int))=True:=eq_true qo;have h1c:(i<n2)=True:=eq_true htn;have gA:=Kd.xq HP.out hI.out;obtain⟨ad,rfl,s0,s1,s2⟩:=pN gA (i:Int) qo qo;rw[Int.toNat_natCast]at s0 s1 s2
   obtain⟨sa,iR⟩:∃ x,(bG ss i).f0=x:=⟨_,rfl⟩
   obtain⟨sb,iT⟩:∃ x,(bG ss i).f1=x:=⟨_,rfl⟩
   obtain⟨sc,lX⟩:∃ x,(bG ss i).f2=x:=⟨_,rfl⟩
   have hsm:nA ss xa xb i=(decide (min sa sb=min xa xb)&&decide (max sa sb=max xa xb)):=by unfold nA;rw[iR,iT]
   rw[show(kJ ss (i:Int)).f0=sa from iR]at s0
   rw[show(kJ ss (i:Int)).f1=sb from iT]at s1
   rw[show(kJ ss (i:Int)).f2=sc from lX]at s2
   have LH:=qh (amp h sa sb sc xa xb wr ((hI.out.cell (ql D0.out)).trans D0.out) ((hI.out.cell (ql D1.out)).trans D1.out));rw[<- hsm]at LH
   have dR:=qh htn;clear iR iT lX hsm gA htn ht;cases hb:nA ss xa xb i with
   | true =>
    rw[hb]at LH
    have HF:=qh (ZO hb hC.out n2 dR.out);clear hb;go_wp2_with fail
    refine LH.out.mono ?_;rintro e w3 ⟨rfl,hb⟩;have bX:=qh (hI.out.trans (hb.mono hI.out.size));clear hb;go_wp2
    go_ret
    exact⟨by rw[HF.out];rfl,bX.out⟩
   | false =>
    rw[hb]at LH
    have HF:=qh hb;clear hb;go_wp2_with fail
    refine LH.out.mono ?_;rintro e w3 ⟨rfl,hb⟩;have bX:=qh (hI.out.trans (hb.mono hI.out.size));clear hb;go_wp2
    have h8:=dR.out;have h9:=HL.out;rw[kB qo];exact⟨⟨i+1,by omega,rfl,bX,qh (fun j hj=>by
     rcases Nat.lt_succ_iff_lt_or_eq.1 hj with h|h
     ·exact hC.out j h
     ·subst h;exact HF.out)⟩,by show n2-(((i+1:Nat):Int)).toNat<n2-((i:Nat):Int).toNat;omega⟩
  ·have h1:decide ((i:Int)<(n2:Int))=false:=decide_eq_false qo
   have CN:decide (i<n2)=false:=decide_eq_false htn;have HF:=qh (Mi.2 (fun j hj=>hC.out j qo):nT (nA ss xa xb) n2=none);go_wp2
   go_ret
   exact⟨by rw[HF.out];rfl,hI.out⟩
theorem alj (A0 A1 A2:Option Addr) (n0 c0 n1 c1 n2 c2:Nat) (ss:SS) (xa xb:Int) (w:World) (hp:Kd.C tZ w A2 n2 ss) (hn2:ss.length=n2) (hl:n2<=100000) :
  Calls Tryz.prog 44 #[.agg #[.slice A0 n0 c0,.slice A1 n1 c1,.slice A2 n2 c2],.agg #[.int .i64 xa,.int .i64 xb]] w fun e w'=>e = .returned (.int .i64 (oI (nT (nA ss xa xb) n2)))/\Below w.heap.size w w':=by
 have hmf:∀ (fn:Fn) (first cap:Array Value) (w:World),(Instr.makeFunc fn first cap).run Tryz.prog w = .ok (.func fn first cap) w:=fun _ _ _ _=>rfl;have hb0:Below w.heap.size w ((w.alloc (.cells #[.slice A0 n0 c0,.slice A1 n1 c1,.slice A2 n2 c2] 26)).alloc (.cells #[.int .i64 xa,.int .i64 xb] 73)):=((Below.refl _ _).alloc (Nat.le_refl _) _).alloc (by simp) _;have HI:=qh (apv (w.heap.size+1) A2 n2 c2 ss xa xb _ (Kd.xq hp hb0) hn2 hl (by simp[go_sem]) (by simp[go_sem]));have HB:=qh hb0;clear hb0 hp;go_enter Tryz.func44,Tryz.ntmps44;go_wp2_with fail
 refine HI.out.mono ?_;rintro e w3 ⟨rfl,hb⟩;have bX:=qh (HB.out.trans (hb.mono (by simp;omega)));clear hb hmf;go_wp2
 go_ret
 exact⟨rfl,bX.out⟩
end Go.Proofs.YtcmepkhjggpmeaaGreat
