import Derived.Test.YtcmepkhjggpmeaaGreatZuG2
import Derived.Test.YtcmepkhjggpmeaaGreatZuG20
set_option linter.all false
set_option maxRecDepth 100000
set_option maxHeartbeats 8000000
namespace Go.Proofs.aF.R
open Go.RowKit Go.Proofs.aF.Z Go.Proofs.aD.aY Go.Proofs.aD.bO Go.Proofs.aD.bT
attribute [local go_sem] ct cu cA cC ck cm cw cz
def acP:Option Int->Value
 | none => .nilIface
 | some c => .iface 0 (.int .i64 c)
theorem XK:acP none = .nilIface:=rfl
theorem XL (c:Int):acP (some c) = .iface 0 (.int .i64 c):=rfl
structure aI where
 f0:Bool
 f1:ByteArray
def z38:aI:=⟨false,⟨#[]⟩⟩
def Pw:Kd aI:=Kd.O4 (Kd.pair Kd.bool Kd.string) (fun x:aI=>(x.f0,x.f1))
theorem ahz {w:World} {x:aI} {cs:List Value} (h:Pw.K w x cs):cs=[.bool x.f0,.string x.f1]:=by
 obtain⟨_,_,rfl,rfl,rfl⟩:=h;exact rfl
theorem al6 (w:World) (x:aI) :Pw.K w x [.bool x.f0,.string x.f1]:=⟨[.bool x.f0],[.string x.f1],rfl,rfl,rfl⟩
theorem aim (w:World) (base:Nat) (ok:Nat->Prop) (x:aI) :Pw.M w base ok x [.bool x.f0,.string x.f1]:=⟨[.bool x.f0],[.string x.f1],rfl,rfl,rfl⟩
structure aH where
 f0:aI
 f1:ByteArray
def z40:aH:=⟨z38,⟨#[]⟩⟩
def kO:Kd aH:=Kd.O4 (Kd.pair Pw Kd.string) (fun x:aH=>(x.f0,x.f1))
theorem RE {w:World} {x:aH} {cs:List Value} (h:kO.K w x cs):cs=[.bool x.f0.f0,.string x.f0.f1,.string x.f1]:=by
 obtain⟨_,_,rfl,s0,rfl⟩:=h;obtain rfl:=ahz s0;exact rfl
theorem Z_ (w:World) (x:aH) :kO.K w x [.bool x.f0.f0,.string x.f0.f1,.string x.f1]:=⟨[.bool x.f0.f0,.string x.f0.f1],[.string x.f1],rfl,(al6 w x.f0 ),rfl⟩
theorem sJ (w:World) (base:Nat) (ok:Nat->Prop) (x:aH) :kO.M w base ok x [.bool x.f0.f0,.string x.f0.f1,.string x.f1]:=⟨[.bool x.f0.f0,.string x.f0.f1],[.string x.f1],rfl,(aim w base ok x.f0 ),rfl⟩
def fP (xs:List aH) (i:Int):aH:=xs.getD i.toNat z40
theorem SZ {w:World} {A:Option Addr} {n:Nat} {xs:List aH} (h:Kd.C kO w A n xs) (i:Int) (h0:0<=i) (h1:i<n):∃ ad ,A=some ad/\w.cell? (ad.add (i.toNat*3))=some (.bool (fP xs i).f0.f0)/\w.cell? ⟨(ad.add (i.toNat*3)).block,(ad.add (i.toNat*3)).off+1,none⟩=some (.string (fP xs i).f0.f1)/\w.cell? ⟨(ad.add (i.toNat*3)).block,(ad.add (i.toNat*3)).off+2,none⟩=some (.string (fP xs i).f1):=by
 obtain⟨ad,c,e,_,hK,hc0⟩:=Kd.Tp h z40 i h0 h1;have hc:∀ j u,c[j]?=some u->w.cell? (ad.add (i.toNat*3+j))=some u:=hc0;obtain rfl:=RE hK;exact⟨ad,e,hc 0 _ rfl,by rw[<- yq _ _ 1 qo];exact hc 1 _ rfl,by rw[<- yq _ _ 2 qo];exact hc 2 _ rfl⟩
structure aZ where
 f0:aH
 f1:aH
def z54:aZ:=⟨z40,z40⟩
def eA:Kd aZ:=Kd.O4 (Kd.pair kO kO) (fun x:aZ=>(x.f0,x.f1))
theorem ahA {w:World} {x:aZ} {cs:List Value} (h:eA.K w x cs):cs=[.bool x.f0.f0.f0,.string x.f0.f0.f1,.string x.f0.f1,.bool x.f1.f0.f0,.string x.f1.f0.f1,.string x.f1.f1]:=by
 obtain⟨_,_,rfl,s0,s3⟩:=h;obtain rfl:=RE s0;obtain rfl:=RE s3;exact rfl
theorem JB (w:World) (x:aZ) :eA.K w x [.bool x.f0.f0.f0,.string x.f0.f0.f1,.string x.f0.f1,.bool x.f1.f0.f0,.string x.f1.f0.f1,.string x.f1.f1]:=⟨[.bool x.f0.f0.f0,.string x.f0.f0.f1,.string x.f0.f1],[.bool x.f1.f0.f0,.string x.f1.f0.f1,.string x.f1.f1],rfl,(Z_ w x.f0 ),(Z_ w x.f1 )⟩
theorem nJ (w:World) (base:Nat) (ok:Nat->Prop) (x:aZ) :eA.M w base ok x [.bool x.f0.f0.f0,.string x.f0.f0.f1,.string x.f0.f1,.bool x.f1.f0.f0,.string x.f1.f0.f1,.string x.f1.f1]:=⟨[.bool x.f0.f0.f0,.string x.f0.f0.f1,.string x.f0.f1],[.bool x.f1.f0.f0,.string x.f1.f0.f1,.string x.f1.f1],rfl,(sJ w base ok x.f0 ),(sJ w base ok x.f1 )⟩
def aB (xs:List aZ) (i:Int):aZ:=xs.getD i.toNat z54
theorem oW {w:World} {A:Option Addr} {n:Nat} {xs:List aZ} (h:Kd.C eA w A n xs) (i:Int) (h0:0<=i) (h1:i<n):∃ ad ,A=some ad/\w.cell? (ad.add (i.toNat*6))=some (.bool (aB xs i).f0.f0.f0)/\w.cell? ⟨(ad.add (i.toNat*6)).block,(ad.add (i.toNat*6)).off+1,none⟩=some (.string (aB xs i).f0.f0.f1)/\w.cell? ⟨(ad.add (i.toNat*6)).block,(ad.add (i.toNat*6)).off+2,none⟩=some (.string (aB xs i).f0.f1)/\w.cell? ⟨(ad.add (i.toNat*6)).block,(ad.add (i.toNat*6)).off+3,none⟩=some (.bool (aB xs i).f1.f0.f0)/\w.cell? ⟨(ad.add (i.toNat*6)).block,(ad.add (i.toNat*6)).off+4,none⟩=some (.string (aB xs i).f1.f0.f1)/\w.cell? ⟨(ad.add (i.toNat*6)).block,(ad.add (i.toNat*6)).off+5,none⟩=some (.string (aB xs i).f1.f1):=by
 obtain⟨ad,c,e,_,hK,hc0⟩:=Kd.Tp h z54 i h0 h1;have hc:∀ j u,c[j]?=some u->w.cell? (ad.add (i.toNat*6+j))=some u:=hc0;obtain rfl:=ahA hK;exact⟨ad,e,hc 0 _ rfl,by rw[<- yq _ _ 1 qo];exact hc 1 _ rfl,by rw[<- yq _ _ 2 qo];exact hc 2 _ rfl,by rw[<- yq _ _ 3 qo];exact hc 3 _ rfl,by rw[<- yq _ _ 4 qo];exact hc 4 _ rfl,by rw[<- yq _ _ 5 qo];exact hc 5 _ rfl⟩
structure pT where
 f0:Int
 f1:Int
 f2:Bool
def V8:pT:=⟨(0:Int),(0:Int),false⟩
def tZ:Kd pT:=Kd.O4 (Kd.pair (Kd.int .i64) (Kd.pair (Kd.int .i64) Kd.bool)) (fun x:pT=>(x.f0,x.f1,x.f2))
theorem ahB {w:World} {x:pT} {cs:List Value} (h:tZ.K w x cs):cs=[.int .i64 x.f0,.int .i64 x.f1,.bool x.f2]:=by
 obtain⟨_,_,rfl,rfl,⟨_,_,rfl,rfl,rfl⟩⟩:=h;exact rfl
theorem al7 (w:World) (x:pT) :tZ.K w x [.int .i64 x.f0,.int .i64 x.f1,.bool x.f2]:=⟨[.int .i64 x.f0],[.int .i64 x.f1,.bool x.f2],rfl,rfl,⟨[.int .i64 x.f1],[.bool x.f2],rfl,rfl,rfl⟩⟩
def kJ (xs:List pT) (i:Int):pT:=xs.getD i.toNat V8
theorem pN {w:World} {A:Option Addr} {n:Nat} {xs:List pT} (h:Kd.C tZ w A n xs) (i:Int) (h0:0<=i) (h1:i<n):∃ ad ,A=some ad/\w.cell? (ad.add (i.toNat*3))=some (.int .i64 (kJ xs i).f0)/\w.cell? ⟨(ad.add (i.toNat*3)).block,(ad.add (i.toNat*3)).off+1,none⟩=some (.int .i64 (kJ xs i).f1)/\w.cell? ⟨(ad.add (i.toNat*3)).block,(ad.add (i.toNat*3)).off+2,none⟩=some (.bool (kJ xs i).f2):=by
 obtain⟨ad,c,e,_,hK,hc0⟩:=Kd.Tp h V8 i h0 h1;have hc:∀ j u,c[j]?=some u->w.cell? (ad.add (i.toNat*3+j))=some u:=hc0;obtain rfl:=ahB hK;exact⟨ad,e,hc 0 _ rfl,by rw[<- yq _ _ 1 qo];exact hc 1 _ rfl,by rw[<- yq _ _ 2 qo];exact hc 2 _ rfl⟩
def kS.f (af:Bool) (aa aj:ByteArray):Option (Bool × ByteArray):=some (false,aj)
theorem kS.calls (af:Bool) (aa aj:ByteArray) (r1:Bool) (r2:ByteArray) (w:World) (h:kS.f af aa aj=some (r1,r2)) :
  Calls Tryz.prog 71 #[.agg #[.bool af,.string aa,.string aj]] w fun e w'=>e = .returned (.agg #[.bool r1,.string r2])/\Below w.heap.size w w':=by
 have iL:=Tryz.underlying40;have zk:=Tryz.underlying38;have wK:=xA;have t_:=xB;have hf2:=xC;have hf3:=xD;have HB:=qa (Below.refl w.heap.size w);unfold kS.f at h;have H:=h;clear h;simp only[Option.some.injEq,Prod.mk.injEq]at H;obtain⟨rfl,rfl⟩:=H;go_enter Tryz.func71,Tryz.ntmps71;go_wp2_with (first|((with_reducible refine aV (N:=1) rfl ?_);refine zY 1 #[.bool af,.string aa,.string aj] 40 ?_;intro axe hg w2 ah hb;have NZ:=qa (ah);have axf:=zG hg HB;have axg:=zG hg HB;replace HB:=zS HB hb;clear hb ah hg)|((with_reducible refine aV (N:=2) rfl ?_);refine zY 2 #[.bool false,.string ⟨#[]⟩] 38 ?_;intro amY hg w3 ah hb;have aaT:=qa (ah);have axh:=zG hg HB;have axi:=zG hg HB;obtain⟨afZ,af0⟩:=zQ hg NZ;replace NZ:=zB NZ hb;replace HB:=zS HB hb;clear hb ah hg;have aqr:=afZ.out;have aqs:=af0.out;obtain⟨BG,BH,BI,BJ,BK,BL⟩:=z3 NZ;obtain⟨vR,vS,vT,vU⟩:=z2 aaT))
 refine bodyPost_ret (results_cell_row rfl _ _ amY 38 #[.bool false,.string aj] (0,0) _ rfl (Kx aaT) Tryz.underlying38 rfl qk) rfl ?_;exact⟨zH,zT HB⟩
open Go.Proofs.YtcmepkhjggpmeaaGreat Go.Proofs.YtcmepkhjggpmeaaGreat.aP in
def IC.f (af:Bool) (aa:ByteArray):Option (Bool × ByteArray):=some ((!af&&decide (0<aa.size)),aa)
open Go.Proofs.YtcmepkhjggpmeaaGreat Go.Proofs.YtcmepkhjggpmeaaGreat.aP in
theorem IC.calls (af:Bool) (aa:ByteArray) (r1:Bool) (r2:ByteArray) (w:World) (h:IC.f af aa=some (r1,r2)) :
  Calls Tryz.prog 113 #[.agg #[.bool af,.string aa]] w fun e w'=>e = .returned (.agg #[.bool r1,.string r2])/\Below w.heap.size w w':=by
 unfold IC.f at h;simp only[Option.some.injEq,Prod.mk.injEq]at h;obtain⟨rfl,rfl⟩:=h;exact RF _ _ w
def CY.f (af:Bool) (aa aj:ByteArray):Option (Int):=if af=true then (some (-1)) else (if aa.toList=([]:List UInt8) then (some 0) else (some 1))
theorem CY.calls (af:Bool) (aa aj:ByteArray) (r:Int) (w:World) (h:CY.f af aa aj=some r) :
  Calls Tryz.prog 82 #[.agg #[.bool af,.string aa,.string aj]] w fun e w'=>e = .returned (.int .i64 r)/\Below w.heap.size w w':=by
 have iL:=Tryz.underlying40;have HB:=qa (Below.refl w.heap.size w);unfold CY.f at h;have H:=h;clear h;by_cases c2:af=true
 ·subst c2
  rw[if_pos rfl]at H
  obtain rfl:=Option.some.inj H;go_enter Tryz.func82,Tryz.ntmps82;go_wp2_with (first|((with_reducible refine aV (N:=1) rfl ?_);refine zY 1 #[.bool true,.string aa,.string aj] 40 ?_;intro abd hg w3 ah hb;have JV:=qa (ah);have abe:=zG hg HB;have abf:=zG hg HB;replace HB:=zS HB hb;clear hb ah hg;obtain⟨Nr,Ns,Nt,Nu,Nv,Nw⟩:=z3 JV))
  go_ret
  exact⟨zH,zT HB⟩
 ·replace c2:=Bool.eq_false_iff.mpr c2
  subst c2;rw[if_neg zn]at H
  by_cases c5:aa.toList=([]:List UInt8)
  ·rw[if_pos c5]at H
   have Kg:=beq_iff_eq.mpr c5;have Kh:=bne_eq_false_iff_eq.mpr c5;clear c5;obtain rfl:=Option.some.inj H;go_enter Tryz.func82,Tryz.ntmps82;go_wp2_with (first|((with_reducible refine aV (N:=1) rfl ?_);refine zY 1 #[.bool false,.string aa,.string aj] 40 ?_;intro abd hg w6 ah hb;have JV:=qa (ah);have abe:=zG hg HB;have abf:=zG hg HB;replace HB:=zS HB hb;clear hb ah hg;obtain⟨aw9,aw_,aw',axa,axb,axc⟩:=z3 JV))
   go_ret
   exact⟨zH,zT HB⟩
  ·rw[if_neg c5]at H
   have Kg:=beq_eq_false_iff_ne.mpr c5;have Kh:=bne_iff_ne.mpr c5;obtain rfl:=Option.some.inj H;go_enter Tryz.func82,Tryz.ntmps82;go_wp2_with (first|((with_reducible refine aV (N:=1) rfl ?_);refine zY 1 #[.bool false,.string aa,.string aj] 40 ?_;intro abd hg w8 ah hb;have JV:=qa (ah);have abe:=zG hg HB;have abf:=zG hg HB;replace HB:=zS HB hb;clear hb ah hg;obtain⟨vV,vW,yG,vX,vY,yH⟩:=z3 JV))
   go_ret
   exact⟨zH,zT HB⟩
open Go.Proofs.YtcmepkhjggpmeaaGreat Go.Proofs.YtcmepkhjggpmeaaGreat.aP in
def yj.f (af:Bool) (aa:ByteArray):Option (Int):=some (gF af aa)
open Go.Proofs.YtcmepkhjggpmeaaGreat Go.Proofs.YtcmepkhjggpmeaaGreat.aP in
theorem yj.calls (af:Bool) (aa:ByteArray) (r:Int) (w:World) (h:yj.f af aa=some r) :
  Calls Tryz.prog 150 #[.agg #[.bool af,.string aa]] w fun e w'=>e = .returned (.int .i64 r)/\Below w.heap.size w w':=by
 unfold yj.f at h;obtain rfl:=Option.some.inj h;exact ail _ _ w
open Go.Proofs.YtcmepkhjggpmeaaGreat Go.Proofs.YtcmepkhjggpmeaaGreat.aP in
def AU.f (a0:ByteArray):Option (Bool):=some (rG a0)
open Go.Proofs.YtcmepkhjggpmeaaGreat Go.Proofs.YtcmepkhjggpmeaaGreat.aP in
theorem AU.calls (a0:ByteArray) (r:Bool) (w:World) (h:AU.f a0=some r) :
  Calls Tryz.prog 151 #[.string a0] w fun e w'=>e = .returned (.bool r)/\Below w.heap.size w w':=by
 unfold AU.f at h;obtain rfl:=Option.some.inj h;exact YJ a0 w
def je.f (af:Bool) (aa aj:ByteArray):Option (Bool × ByteArray):=some (false,aj)
theorem je.calls (af:Bool) (aa aj:ByteArray) (r1:Bool) (r2:ByteArray) (w:World) (h:je.f af aa aj=some (r1,r2)) :
  Calls Tryz.prog 101 #[.agg #[.bool af,.string aa,.string aj]] w fun e w'=>e = .returned (.agg #[.bool r1,.string r2])/\Below w.heap.size w w':=by
 have iL:=Tryz.underlying40;have zk:=Tryz.underlying38;have wK:=xA;have t_:=xB;have hf2:=xC;have hf3:=xD;have HB:=qa (Below.refl w.heap.size w);unfold je.f at h;have H:=h;clear h;simp only[Option.some.injEq,Prod.mk.injEq]at H;obtain⟨rfl,rfl⟩:=H;go_enter Tryz.func101,Tryz.ntmps101;go_wp2_with (first|((with_reducible refine aV (N:=1) rfl ?_);refine zY 1 #[.bool af,.string aa,.string aj] 40 ?_;intro ax8 hg w2 ah hb;have Oe:=qa (ah);have ax9:=zG hg HB;have ax_:=zG hg HB;replace HB:=zS HB hb;clear hb ah hg)|((with_reducible refine aV (N:=2) rfl ?_);refine zY 2 #[.bool false,.string ⟨#[]⟩] 38 ?_;intro anA hg w3 ah hb;have abk:=qa (ah);have ax':=zG hg HB;have aya:=zG hg HB;obtain⟨af5,af6⟩:=zQ hg Oe;replace Oe:=zB Oe hb;replace HB:=zS HB hb;clear hb ah hg;have aqr:=af5.out;have aqs:=af6.out;obtain⟨BG,BH,BI,BJ,BK,BL⟩:=z3 Oe;obtain⟨vR,vS,vT,vU⟩:=z2 abk))
 refine bodyPost_ret (results_cell_row rfl _ _ anA 38 #[.bool false,.string aj] (0,0) _ rfl (Kx abk) Tryz.underlying38 rfl qk) rfl ?_;exact⟨zH,zT HB⟩
open Go.Proofs.YtcmepkhjggpmeaaGreat Go.Proofs.YtcmepkhjggpmeaaGreat.aP in
def sH.f (af:Bool) (aa:ByteArray) (aq:Bool) (ak:ByteArray):Option (Bool × ByteArray × Int):=if aa.size<=15000/\ak.size<=15000 then some ((BZ (af,aa) (aq,ak)).1.1,(BZ (af,aa) (aq,ak)).1.2,(BZ (af,aa) (aq,ak)).2) else none
open Go.Proofs.YtcmepkhjggpmeaaGreat Go.Proofs.YtcmepkhjggpmeaaGreat.aP in
theorem sH.calls (af:Bool) (aa:ByteArray) (aq:Bool) (ak:ByteArray) (r1:Bool) (r2:ByteArray) (r3:Int) (w:World) (h:sH.f af aa aq ak=some (r1,r2,r3)) :
  Calls Tryz.prog 137 #[.agg #[.bool af,.string aa],.agg #[.bool aq,.string ak]] w fun e w'=>e = .returned (.tuple #[.agg #[.bool r1,.string r2],.int .i64 r3])/\Below w.heap.size w w':=by
 unfold sH.f at h;split at h
 ·rename_i hc
  simp only[Option.some.injEq,Prod.mk.injEq]at h;obtain⟨rfl,rfl,rfl⟩:=h;exact al5 (af,aa) (aq,ak) hc.1 hc.2 w
 ·exact absurd h (by simp)
open Go.Proofs.YtcmepkhjggpmeaaGreat Go.Proofs.YtcmepkhjggpmeaaGreat.aP in
def vE.f (af:Bool) (aa:ByteArray):Option (Int):=some (gF af aa)
open Go.Proofs.YtcmepkhjggpmeaaGreat Go.Proofs.YtcmepkhjggpmeaaGreat.aP in
theorem vE.calls (af:Bool) (aa:ByteArray) (r:Int) (w:World) (h:vE.f af aa=some r) :
  Calls Tryz.prog 139 #[.agg #[.bool af,.string aa]] w fun e w'=>e = .returned (.int .i64 r)/\Below w.heap.size w w':=by
 unfold vE.f at h;obtain rfl:=Option.some.inj h;exact Mw _ _ w
open Go.Proofs.YtcmepkhjggpmeaaGreat Go.Proofs.YtcmepkhjggpmeaaGreat.aP in
def yu.f (af:Bool) (aa:ByteArray) (aq:Bool) (ak:ByteArray):Option (Bool × ByteArray × Bool × ByteArray × Int):=if aa.size<=15000/\ak.size<=15000 then some ((uO (af,aa) (aq,ak)).1.1,(uO (af,aa) (aq,ak)).1.2,(uO (af,aa) (aq,ak)).2.1.1,(uO (af,aa) (aq,ak)).2.1.2,(uO (af,aa) (aq,ak)).2.2) else none
open Go.Proofs.YtcmepkhjggpmeaaGreat Go.Proofs.YtcmepkhjggpmeaaGreat.aP in
theorem yu.calls (af:Bool) (aa:ByteArray) (aq:Bool) (ak:ByteArray) (r1:Bool) (r2:ByteArray) (r3:Bool) (r4:ByteArray) (r5:Int) (w:World) (h:yu.f af aa aq ak=some (r1,r2,r3,r4,r5)) :
  Calls Tryz.prog 138 #[.agg #[.bool af,.string aa],.agg #[.bool aq,.string ak]] w fun e w'=>e = .returned (.tuple #[.agg #[.bool r1,.string r2],.agg #[.bool r3,.string r4],.int .i64 r5])/\Below w.heap.size w w':=by
 unfold yu.f at h;split at h
 ·rename_i hc
  simp only[Option.some.injEq,Prod.mk.injEq]at h;obtain⟨rfl,rfl,rfl,rfl,rfl⟩:=h;exact al4 (af,aa) (aq,ak) hc.1 hc.2 w
 ·exact absurd h (by simp)
theorem apw (d:Nat) (w:World) (x0 y0:Bool) (x1 y1:ByteArray) :
  (Op.equalIn (d+2) 38 (.agg #[.bool x0,.string x1]) (.agg #[.bool y0,.string y1])).run Tryz.prog w = .ok (x0==y0&&(x1.toList==y1.toList)) w:=by
 refine Nh Tryz.underlying38 qk ?_;refine IV (by rfl) (by go_simp;rfl) (by go_simp;rfl) (by go_simp) ?_;exact Ml (by rfl) (by go_simp;rfl) (by go_simp;rfl) (by go_simp)
theorem abW (d:Nat) (w:World) (x0 y0:Bool) (x1 y1 x2 y2:ByteArray) :
  (Op.equalIn (d+3) 40 (.agg #[.bool x0,.string x1,.string x2]) (.agg #[.bool y0,.string y1,.string y2])).run Tryz.prog w = .ok ((x0==y0&&(x1.toList==y1.toList))&&(x2.toList==y2.toList)) w:=by
 refine Nh Tryz.underlying40 qk ?_;refine IV (by rfl) (by go_simp) (by go_simp) (apw (d+0) w _ _ _ _) ?_;exact Ml (by rfl) (by go_simp;rfl) (by go_simp;rfl) (by go_simp)
theorem azN (d:Nat) (w:World) (x0 y0:Bool) (x1 y1 x2 y2:ByteArray) (x3 y3:Bool) (x4 y4 x5 y5:ByteArray) :
  (Op.equalIn (d+4) 54 (.agg #[.bool x0,.string x1,.string x2,.bool x3,.string x4,.string x5]) (.agg #[.bool y0,.string y1,.string y2,.bool y3,.string y4,.string y5])).run Tryz.prog w = .ok (((x0==y0&&(x1.toList==y1.toList))&&(x2.toList==y2.toList))&&(((x3==y3&&(x4.toList==y4.toList))&&(x5.toList==y5.toList)))) w:=by
 refine Nh Tryz.underlying54 qk ?_;refine IV (by rfl) (by go_simp) (by go_simp) (abW (d+0) w _ _ _ _ _ _) ?_;exact Ml (by rfl) (by go_simp) (by go_simp) (abW (d+0) w _ _ _ _ _ _)
theorem azO (d:Nat) (w:World) (x0 y0 x1 y1:Int) (x2 y2:Bool) :
  (Op.equalIn (d+2) 65 (.agg #[.int .i64 x0,.int .i64 x1,.bool x2]) (.agg #[.int .i64 y0,.int .i64 y1,.bool y2])).run Tryz.prog w = .ok (x0==y0&&(x1==y1&&(x2==y2))) w:=by
 refine Nh Tryz.underlying65 qk ?_;refine IV (by rfl) (by go_simp;rfl) (by go_simp;rfl) (by go_simp) ?_;refine IV (by rfl) (by go_simp;rfl) (by go_simp;rfl) (by go_simp) ?_;exact Ml (by rfl) (by go_simp;rfl) (by go_simp;rfl) (by go_simp)
open Go.Proofs.YtcmepkhjggpmeaaGreat Go.Proofs.YtcmepkhjggpmeaaGreat.aP in
def FJ.f (af:Bool) (aa:ByteArray) (aq:Bool) (ak:ByteArray):Option (Bool × ByteArray × Int):=if aa.size<=15000/\ak.size<=15000 then some ((lJ (·+·) (af,aa) (aq,ak)).1.1,(lJ (·+·) (af,aa) (aq,ak)).1.2,(lJ (·+·) (af,aa) (aq,ak)).2) else none
open Go.Proofs.YtcmepkhjggpmeaaGreat Go.Proofs.YtcmepkhjggpmeaaGreat.aP in
theorem FJ.calls (af:Bool) (aa:ByteArray) (aq:Bool) (ak:ByteArray) (r1:Bool) (r2:ByteArray) (r3:Int) (w:World) (h:FJ.f af aa aq ak=some (r1,r2,r3)) :
  Calls Tryz.prog 67 #[.agg #[.bool af,.string aa],.agg #[.bool aq,.string ak]] w fun e w'=>e = .returned (.tuple #[.agg #[.bool r1,.string r2],.int .i64 r3])/\Below w.heap.size w w':=by
 unfold FJ.f at h;split at h
 ·rename_i hc
  simp only[Option.some.injEq,Prod.mk.injEq]at h;obtain⟨rfl,rfl,rfl⟩:=h;exact(amV (af,aa) (aq,ak) hc.1 hc.2).out w
 ·exact absurd h (by simp)
open Go.Proofs.YtcmepkhjggpmeaaGreat Go.Proofs.YtcmepkhjggpmeaaGreat.aP in
def Fo.f (a0:Int):Option (Bool × ByteArray):=if -9223372036854775808<=a0/\a0<=9223372036854775807 then some ((pv a0).1,(pv a0).2) else none
open Go.Proofs.YtcmepkhjggpmeaaGreat Go.Proofs.YtcmepkhjggpmeaaGreat.aP in
theorem Fo.calls (a0:Int) (r1:Bool) (r2:ByteArray) (w:World) (h:Fo.f a0=some (r1,r2)) :
  Calls Tryz.prog 68 #[.int .i64 a0] w fun e w'=>e = .returned (.agg #[.bool r1,.string r2])/\Below w.heap.size w w':=by
 unfold Fo.f at h;split at h
 ·rename_i hc
  simp only[Option.some.injEq,Prod.mk.injEq]at h;obtain⟨rfl,rfl⟩:=h;exact aqq a0 hc.1 hc.2 w
 ·exact absurd h (by simp)
def w_.f (a0:Int):Option (Bool × ByteArray × ByteArray):=(Fo.f a0).bind fun ab0=>(some (ab0.1,ab0.2,(⟨#[1]⟩:ByteArray)))
theorem w_.calls (a0:Int) (r1:Bool) (r2 r3:ByteArray) (w:World) (h:w_.f a0=some (r1,r2,r3)) :
  Calls Tryz.prog 41 #[.int .i64 a0] w fun e w'=>e = .returned (.agg #[.bool r1,.string r2,.string r3])/\Below w.heap.size w w':=by
 have iL:=Tryz.underlying40;have HB:=qa (Below.refl w.heap.size w);unfold w_.f at h;have H:=h;clear h;obtain⟨⟨aer,aes⟩,A2,H⟩:=zo H;try dsimp only at H
 simp only[Option.some.injEq,Prod.mk.injEq]at H;obtain⟨rfl,rfl,rfl⟩:=H;go_enter Tryz.func41,Tryz.ntmps41;go_wp2_with (first|((with_reducible refine aV (N:=2) rfl ?_);refine zY 2 #[.bool false,.string ⟨#[]⟩,.string ⟨#[]⟩] 40 ?_;intro apG hg w3 ah hb;have Oy:=qa (ah);have azX:=zG hg HB;have azY:=zG hg HB;replace HB:=zS HB hb;clear hb ah hg)|((with_reducible refine cW (f:=68) rfl ?_);refine zO Tryz.func68 qk (Fo.calls a0 aer aes _ A2.out) fun w4 hb=>?_;replace Oy:=zB Oy hb;replace HB:=zS HB hb;(try clear hb);obtain⟨BG,BH,BI,BJ,BK,BL⟩:=z3 Oy))
 refine bodyPost_ret (results_cell_row rfl _ _ apG 40 #[.bool aer,.string aes,.string (⟨#[1]⟩:ByteArray)] (0,0) _ rfl (Kx Oy) Tryz.underlying40 rfl qk) rfl ?_;exact⟨zH,zT HB⟩
end Go.Proofs.aF.R
