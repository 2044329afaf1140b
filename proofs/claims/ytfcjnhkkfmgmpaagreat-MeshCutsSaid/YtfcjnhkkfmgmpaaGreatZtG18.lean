import Derived.Test.YtfcjnhkkfmgmpaaGreatZtG17
set_option linter.all false
set_option maxRecDepth 100000
set_option maxHeartbeats 8000000
namespace Go.Proofs.aA.R
open Go.RowKit Go.Proofs.aA.Z Go.Proofs.aB.aZ Go.Proofs.aB.bT Go.Proofs.aB.bX
attribute [local go_sem] cm ct cz cA cj ck cu cw
def agw:Option Int->Value
 | none => .nilIface
 | some c => .iface 0 (.int .i64 c)
theorem aaF:agw none = .nilIface:=rfl
theorem aaG (c:Int):agw (some c) = .iface 0 (.int .i64 c):=rfl
structure aG where
 f0:Bool
 f1:ByteArray
def z38:aG:=⟨false,⟨#[]⟩⟩
def Sq:Kd aG:=Kd.R1 (Kd.pair Kd.bool Kd.string) (fun x:aG=>(x.f0,x.f1))
theorem akX {w:World} {x:aG} {cs:List Value} (h:Sq.K w x cs):cs=[.bool x.f0,.string x.f1]:=by
 obtain⟨_,_,rfl,rfl,rfl⟩:=h;exact rfl
theorem apk (w:World) (x:aG) :Sq.K w x [.bool x.f0,.string x.f1]:=⟨[.bool x.f0],[.string x.f1],rfl,rfl,rfl⟩
theorem alE (w:World) (base:Nat) (ok:Nat->Prop) (x:aG) :Sq.M w base ok x [.bool x.f0,.string x.f1]:=⟨[.bool x.f0],[.string x.f1],rfl,rfl,rfl⟩
structure aF where
 f0:aG
 f1:ByteArray
def z40:aF:=⟨z38,⟨#[]⟩⟩
def jc:Kd aF:=Kd.R1 (Kd.pair Sq Kd.string) (fun x:aF=>(x.f0,x.f1))
theorem UW {w:World} {x:aF} {cs:List Value} (h:jc.K w x cs):cs=[.bool x.f0.f0,.string x.f0.f1,.string x.f1]:=by
 obtain⟨_,_,rfl,s0,rfl⟩:=h;obtain rfl:=akX s0;exact rfl
theorem adl (w:World) (x:aF) :jc.K w x [.bool x.f0.f0,.string x.f0.f1,.string x.f1]:=⟨[.bool x.f0.f0,.string x.f0.f1],[.string x.f1],rfl,(apk w x.f0 ),rfl⟩
theorem ni (w:World) (base:Nat) (ok:Nat->Prop) (x:aF) :jc.M w base ok x [.bool x.f0.f0,.string x.f0.f1,.string x.f1]:=⟨[.bool x.f0.f0,.string x.f0.f1],[.string x.f1],rfl,(alE w base ok x.f0 ),rfl⟩
def fE (xs:List aF) (i:Int):aF:=xs.getD i.toNat z40
theorem V6 {w:World} {A:Option Addr} {n:Nat} {xs:List aF} (h:Kd.C jc w A n xs) (i:Int) (h0:0<=i) (h1:i<n):∃ ad ,A=some ad/\w.cell? (ad.add (i.toNat*3))=some (.bool (fE xs i).f0.f0)/\w.cell? ⟨(ad.add (i.toNat*3)).block,(ad.add (i.toNat*3)).off+1,none⟩=some (.string (fE xs i).f0.f1)/\w.cell? ⟨(ad.add (i.toNat*3)).block,(ad.add (i.toNat*3)).off+2,none⟩=some (.string (fE xs i).f1):=by
 obtain⟨ad,c,e,_,hK,hc0⟩:=Kd.Wo h z40 i h0 h1;have hc:∀ j u,c[j]?=some u->w.cell? (ad.add (i.toNat*3+j))=some u:=hc0;obtain rfl:=UW hK;exact⟨ad,e,hc 0 _ rfl,by rw[<- Am _ _ 1 qo];exact hc 1 _ rfl,by rw[<- Am _ _ 2 qo];exact hc 2 _ rfl⟩
structure bg where
 f0:aF
 f1:aF
def Zl:bg:=⟨z40,z40⟩
def dX:Kd bg:=Kd.R1 (Kd.pair jc jc) (fun x:bg=>(x.f0,x.f1))
theorem aa3 {w:World} {x:bg} {cs:List Value} (h:dX.K w x cs):cs=[.bool x.f0.f0.f0,.string x.f0.f0.f1,.string x.f0.f1,.bool x.f1.f0.f0,.string x.f1.f0.f1,.string x.f1.f1]:=by
 obtain⟨_,_,rfl,s0,s3⟩:=h;obtain rfl:=UW s0;obtain rfl:=UW s3;exact rfl
theorem yT (w:World) (x:bg) :dX.K w x [.bool x.f0.f0.f0,.string x.f0.f0.f1,.string x.f0.f1,.bool x.f1.f0.f0,.string x.f1.f0.f1,.string x.f1.f1]:=⟨[.bool x.f0.f0.f0,.string x.f0.f0.f1,.string x.f0.f1],[.bool x.f1.f0.f0,.string x.f1.f0.f1,.string x.f1.f1],rfl,(adl w x.f0 ),(adl w x.f1 )⟩
theorem ow (w:World) (base:Nat) (ok:Nat->Prop) (x:bg) :dX.M w base ok x [.bool x.f0.f0.f0,.string x.f0.f0.f1,.string x.f0.f1,.bool x.f1.f0.f0,.string x.f1.f0.f1,.string x.f1.f1]:=⟨[.bool x.f0.f0.f0,.string x.f0.f0.f1,.string x.f0.f1],[.bool x.f1.f0.f0,.string x.f1.f0.f1,.string x.f1.f1],rfl,(ni w base ok x.f0 ),(ni w base ok x.f1 )⟩
def aC (xs:List bg) (i:Int):bg:=xs.getD i.toNat Zl
theorem oB {w:World} {A:Option Addr} {n:Nat} {xs:List bg} (h:Kd.C dX w A n xs) (i:Int) (h0:0<=i) (h1:i<n):∃ ad ,A=some ad/\w.cell? (ad.add (i.toNat*6))=some (.bool (aC xs i).f0.f0.f0)/\w.cell? ⟨(ad.add (i.toNat*6)).block,(ad.add (i.toNat*6)).off+1,none⟩=some (.string (aC xs i).f0.f0.f1)/\w.cell? ⟨(ad.add (i.toNat*6)).block,(ad.add (i.toNat*6)).off+2,none⟩=some (.string (aC xs i).f0.f1)/\w.cell? ⟨(ad.add (i.toNat*6)).block,(ad.add (i.toNat*6)).off+3,none⟩=some (.bool (aC xs i).f1.f0.f0)/\w.cell? ⟨(ad.add (i.toNat*6)).block,(ad.add (i.toNat*6)).off+4,none⟩=some (.string (aC xs i).f1.f0.f1)/\w.cell? ⟨(ad.add (i.toNat*6)).block,(ad.add (i.toNat*6)).off+5,none⟩=some (.string (aC xs i).f1.f1):=by
 obtain⟨ad,c,e,_,hK,hc0⟩:=Kd.Wo h Zl i h0 h1;have hc:∀ j u,c[j]?=some u->w.cell? (ad.add (i.toNat*6+j))=some u:=hc0;obtain rfl:=aa3 hK;exact⟨ad,e,hc 0 _ rfl,by rw[<- Am _ _ 1 qo];exact hc 1 _ rfl,by rw[<- Am _ _ 2 qo];exact hc 2 _ rfl,by rw[<- Am _ _ 3 qo];exact hc 3 _ rfl,by rw[<- Am _ _ 4 qo];exact hc 4 _ rfl,by rw[<- Am _ _ 5 qo];exact hc 5 _ rfl⟩
structure mN where
 f0:Int
 f1:Int
 f2:Bool
def Sr:mN:=⟨(0:Int),(0:Int),false⟩
def qi:Kd mN:=Kd.R1 (Kd.pair (Kd.int .i64) (Kd.pair (Kd.int .i64) Kd.bool)) (fun x:mN=>(x.f0,x.f1,x.f2))
theorem aa4 {w:World} {x:mN} {cs:List Value} (h:qi.K w x cs):cs=[.int .i64 x.f0,.int .i64 x.f1,.bool x.f2]:=by
 obtain⟨_,_,rfl,rfl,⟨_,_,rfl,rfl,rfl⟩⟩:=h;exact rfl
theorem adm (w:World) (x:mN) :qi.K w x [.int .i64 x.f0,.int .i64 x.f1,.bool x.f2]:=⟨[.int .i64 x.f0],[.int .i64 x.f1,.bool x.f2],rfl,rfl,⟨[.int .i64 x.f1],[.bool x.f2],rfl,rfl,rfl⟩⟩
def eC (xs:List mN) (i:Int):mN:=xs.getD i.toNat Sr
theorem mF {w:World} {A:Option Addr} {n:Nat} {xs:List mN} (h:Kd.C qi w A n xs) (i:Int) (h0:0<=i) (h1:i<n):∃ ad ,A=some ad/\w.cell? (ad.add (i.toNat*3))=some (.int .i64 (eC xs i).f0)/\w.cell? ⟨(ad.add (i.toNat*3)).block,(ad.add (i.toNat*3)).off+1,none⟩=some (.int .i64 (eC xs i).f1)/\w.cell? ⟨(ad.add (i.toNat*3)).block,(ad.add (i.toNat*3)).off+2,none⟩=some (.bool (eC xs i).f2):=by
 obtain⟨ad,c,e,_,hK,hc0⟩:=Kd.Wo h Sr i h0 h1;have hc:∀ j u,c[j]?=some u->w.cell? (ad.add (i.toNat*3+j))=some u:=hc0;obtain rfl:=aa4 hK;exact⟨ad,e,hc 0 _ rfl,by rw[<- Am _ _ 1 qo];exact hc 1 _ rfl,by rw[<- Am _ _ 2 qo];exact hc 2 _ rfl⟩
def lZ.f (af:Bool) (aa aj:ByteArray):Option (Bool × ByteArray):=some (false,aj)
theorem lZ.calls (af:Bool) (aa aj:ByteArray) (r1:Bool) (r2:ByteArray) (w:World) (h:lZ.f af aa aj=some (r1,r2)) :
  Calls Tryz.prog 78 #[.agg #[.bool af,.string aa,.string aj]] w fun e w'=>e = .returned (.agg #[.bool r1,.string r2])/\Below w.heap.size w w':=by
 have ji:=Tryz.underlying40;have Be:=Tryz.underlying38;have xW:=ze;have BJ:=zf;have hf2:=zg;have hf3:=zh;have HB:=qa (Below.refl w.heap.size w);unfold lZ.f at h;have H:=h;clear h;simp only[Option.some.injEq,Prod.mk.injEq]at H;obtain⟨rfl,rfl⟩:=H;go_enter Tryz.func78,Tryz.ntmps78;go_wp2_with (first|((with_reducible refine aR (N:=1) rfl ?_);refine zY 1 #[.bool af,.string aa,.string aj] 40 ?_;intro ayZ hg w2 ah hb;have QE:=qa (ah);have ay0:=zG hg HB;have ay1:=zG hg HB;replace HB:=zS HB hb;clear hb ah hg)|((with_reducible refine aR (N:=2) rfl ?_);refine zY 2 #[.bool false,.string ⟨#[]⟩] 38 ?_;intro aqc hg w3 ah hb;have aeg:=qa (ah);have ay2:=zG hg HB;have ay3:=zG hg HB;obtain⟨ajF,ajG⟩:=zQ hg QE;replace QE:=zB QE hb;replace HB:=zS HB hb;clear hb ah hg;have atW:=ajF.out;have atX:=ajG.out;obtain⟨Fv,Fw,Fx,Fy,Fz,FA⟩:=z3 QE;obtain⟨xu,xw,xx,xy⟩:=z2 aeg))
 refine bodyPost_ret (results_cell_row rfl _ _ aqc 38 #[.bool false,.string aj] (0,0) _ rfl (Kx aeg) Tryz.underlying38 rfl qk) rfl ?_;exact⟨zH,zT HB⟩
open Go.Proofs.YtfcjnhkkfmgmpaaGreat Go.Proofs.YtfcjnhkkfmgmpaaGreat.aS in
def Ah.f (af:Bool) (aa:ByteArray) (aq:Bool) (ak:ByteArray):Option (Bool × ByteArray × ByteArray):=if aa.size<=1000/\ak.size<=1000/\ij af aa=0/\ij aq ak=0/\ival aq ak≠0 then some ((pq (Rat.divInt (ival af aa) (ival aq ak))).1,(pq (Rat.divInt (ival af aa) (ival aq ak))).2.1,(pq (Rat.divInt (ival af aa) (ival aq ak))).2.2) else none
open Go.Proofs.YtfcjnhkkfmgmpaaGreat Go.Proofs.YtfcjnhkkfmgmpaaGreat.aS in
theorem Ah.calls (af:Bool) (aa:ByteArray) (aq:Bool) (ak:ByteArray) (r1:Bool) (r2 r3:ByteArray) (w:World) (h:Ah.f af aa aq ak=some (r1,r2,r3)) :
  Calls Tryz.prog 77 #[.agg #[.bool af,.string aa],.agg #[.bool aq,.string ak]] w fun e w'=>e = .returned (.agg #[.bool r1,.string r2,.string r3])/\Below w.heap.size w w':=by
 unfold Ah.f at h;split at h
 ·rename_i hc
  simp only[Option.some.injEq,Prod.mk.injEq]at h;obtain⟨rfl,rfl,rfl⟩:=h;exact ak4 _ _ _ _ hc.1 hc.2.1 (sw.1 hc.2.2.1) (sw.1 hc.2.2.2.1) hc.2.2.2.2 w
 ·exact absurd h (by simp)
open Go.Proofs.YtfcjnhkkfmgmpaaGreat Go.Proofs.YtfcjnhkkfmgmpaaGreat.aS in
def Kw.f (af:Bool) (aa:ByteArray):Option (Bool × ByteArray):=some ((!af&&decide (0<aa.size)),aa)
open Go.Proofs.YtfcjnhkkfmgmpaaGreat Go.Proofs.YtfcjnhkkfmgmpaaGreat.aS in
theorem Kw.calls (af:Bool) (aa:ByteArray) (r1:Bool) (r2:ByteArray) (w:World) (h:Kw.f af aa=some (r1,r2)) :
  Calls Tryz.prog 90 #[.agg #[.bool af,.string aa]] w fun e w'=>e = .returned (.agg #[.bool r1,.string r2])/\Below w.heap.size w w':=by
 unfold Kw.f at h;simp only[Option.some.injEq,Prod.mk.injEq]at h;obtain⟨rfl,rfl⟩:=h;exact UX _ _ w
mutual
def jB.l0:Nat->List (mN)->Int->Int->Int->Option (Int)
 | 0,_,_,_,_=>none
 | k+1,x0,x1,x2,x7=>if x7<(x0.length:Int) then (if 0<=x7 then (if ((eC x0 x7).f0)=x1 then (if ((eC x0 x7).f1)=x2 then (jB.j1 k x0 x1 x2 x7 true) else (if ((eC x0 x7).f0)=x2 then (jB.j1 k x0 x1 x2 x7 (((eC x0 x7).f1)==x1)) else (jB.j1 k x0 x1 x2 x7 false))) else (if ((eC x0 x7).f0)=x2 then (jB.j1 k x0 x1 x2 x7 (((eC x0 x7).f1)==x1)) else (jB.j1 k x0 x1 x2 x7 false))) else (none)) else (some (-1))
def jB.j1:Nat->List (mN)->Int->Int->Int->Bool->Option (Int)
 | 0,_,_,_,_,_=>none
 | k+1,x0,x1,x2,x7,x47=>if x47=true then (some x7) else (jB.l0 k x0 x1 x2 (wrap64 (x7+1)))
end
def jB.f (k:Nat) (l0:List (mN)) (a1 a2:Int):Option (Int):=jB.l0 k l0 a1 a2 0
theorem jB.calls (k:Nat) (A0:Option Addr) (c0:Nat) (l0:List (mN)) (a1 a2 r:Int) (w:World) (dm:Kd.C qi w A0 l0.length l0) (hc0:l0.length<=c0) (h:jB.f k l0 a1 a2=some r) :
  Calls Tryz.prog 22 #[.slice A0 l0.length c0,.int .i64 a1,.int .i64 a2] w fun e w'=>e = .returned (.int .i64 r)/\d_ w w':=by
 have eN:=qa dm;have Ac:=qa hc0;clear dm hc0;unfold jB.f at h;have H:=h;clear h;have H':=qa H;clear H;go_enter Tryz.func22,Tryz.ntmps22;go_wp2
 go_loopg [7] k (fun kq v7 w'=>∃ (dZ:Int),v7 = .int .i64 dZ/\aO (jB.l0 kq l0 a1 a2 dZ=some r)/\aO (kq<=k)/\d_ w w')
 case atStart=>exact⟨(0),zR,H',⟨Nat.le_refl _⟩,by repeat(first|exact d_.refl _|apply d_.step)⟩
 case round =>
  clear H';try clear c2;try clear p2
  obtain⟨dZ,rfl,HA,fL,⟨m1,rfl⟩⟩:=hrel;cases gk with
  | zero=>exact absurd HA.out (by simp[jB.l0])
  | succ k1 =>
   have H:=HA.out;clear HA;simp only[jB.l0]at H;by_cases c4:dZ<(l0.length:Int)
   ·rw[if_pos c4]at H
    have fW:=decide_eq_true c4;clear c4;have G7:=qa H;clear H;go_upto_region 4 with (fail)
    go_cut [47] (fun v47 wc=>∃ (kq:Nat) (QN:Bool),v47 = .bool QN/\aO (jB.j1 kq l0 a1 a2 dZ QN=some r)/\aO (kq<=k1)/\d_ w wc)
    case first =>
     have H:=G7.out;clear G7;by_cases c6:0<=dZ
     ·rw[if_pos c6]at H
      have sS:=decide_eq_true c6;clear c6
      (first|rw[sS]|(simp only[dL,dM];rw[sS])|skip)
      by_cases c7:((eC l0 dZ).f0)=a1
      ·rw[if_pos c7]at H
       have oH:=beq_iff_eq.mpr c7;have Dg:=bne_eq_false_iff_eq.mpr c7;clear c7;by_cases c8:((eC l0 dZ).f1)=a2
       ·rw[if_pos c8]at H
        have agM:=beq_iff_eq.mpr c8;have agN:=bne_eq_false_iff_eq.mpr c8;clear c8;have H':=qa H;clear H;have oJ:0<=(dZ:Int):=of_decide_eq_true (by first|(with_reducible assumption)|assumption);have oK:dZ<(l0.length:Int):=of_decide_eq_true (by first|(with_reducible assumption)|assumption);obtain⟨uW,Bg,KZ,K0,K1⟩:=mF eN.out dZ oJ oK;cases Bg;replace oJ:=eq_true oJ;replace oK:=eq_true oK;have wE:0<=(dZ:Int):=of_decide_eq_true (by first|(with_reducible assumption)|assumption);have wF:dZ<(l0.length:Int):=of_decide_eq_true (by first|(with_reducible assumption)|assumption);obtain⟨L8,Mv,Vz,VA,VB⟩:=mF eN.out dZ wE wF;obtain rfl:uW=L8:=(by injection Mv)
        replace wE:=eq_true wE;replace wF:=eq_true wF;go_wp2
        go_meet
        case rel=>exact⟨_,(true),zR,H',⟨by have:=fL.out;first|omega|exact Nat.le_refl _⟩,by repeat(first|exact d_.refl _|apply d_.step)⟩
       ·rw[if_neg c8]at H
        have agM:=beq_eq_false_iff_ne.mpr c8;have agN:=bne_iff_ne.mpr c8;by_cases c9:((eC l0 dZ).f0)=a2
        ·rw[if_pos c9]at H
         have Rz:=beq_iff_eq.mpr c9;have RB:=bne_eq_false_iff_eq.mpr c9;clear c9;have H':=qa H;clear H;have oJ:0<=(dZ:Int):=of_decide_eq_true (by first|(with_reducible assumption)|assumption);have oK:dZ<(l0.length:Int):=of_decide_eq_true (by first|(with_reducible assumption)|assumption);obtain⟨uW,Bg,KZ,K0,K1⟩:=mF eN.out dZ oJ oK;cases Bg;replace oJ:=eq_true oJ;replace oK:=eq_true oK;have wE:0<=(dZ:Int):=of_decide_eq_true (by first|(with_reducible assumption)|assumption);have wF:dZ<(l0.length:Int):=of_decide_eq_true (by first|(with_reducible assumption)|assumption);obtain⟨L8,Mv,Vz,VA,VB⟩:=mF eN.out dZ wE wF;obtain rfl:uW=L8:=(by injection Mv)
         replace wE:=eq_true wE;replace wF:=eq_true wF;have Dh:0<=(dZ:Int):=of_decide_eq_true (by first|(with_reducible assumption)|assumption);have Di:dZ<(l0.length:Int):=of_decide_eq_true (by first|(with_reducible assumption)|assumption);obtain⟨WM,X4,abT,abU,abV⟩:=mF eN.out dZ Dh Di;obtain rfl:uW=WM:=(by injection X4)
         replace Dh:=eq_true Dh;replace Di:=eq_true Di;have RD:0<=(dZ:Int):=of_decide_eq_true (by first|(with_reducible assumption)|assumption);have RE:dZ<(l0.length:Int):=of_decide_eq_true (by first|(with_reducible assumption)|assumption);obtain⟨aqr,at7,al',ama,amb⟩:=mF eN.out dZ RD RE;obtain rfl:uW=aqr:=(by injection at7)
         replace RD:=eq_true RD;replace RE:=eq_true RE;go_wp2
         go_meet
         case rel=>exact⟨_,((((eC l0 dZ).f1)==a1)),zR,H',⟨by have:=fL.out;first|omega|exact Nat.le_refl _⟩,by repeat(first|exact d_.refl _|apply d_.step)⟩
        ·rw[if_neg c9]at H
         have Rz:=beq_eq_false_iff_ne.mpr c9;have RB:=bne_iff_ne.mpr c9;have H':=qa H;clear H;have oJ:0<=(dZ:Int):=of_decide_eq_true (by first|(with_reducible assumption)|assumption);have oK:dZ<(l0.length:Int):=of_decide_eq_true (by first|(with_reducible assumption)|assumption);obtain⟨uW,Bg,KZ,K0,K1⟩:=mF eN.out dZ oJ oK;cases Bg;replace oJ:=eq_true oJ;replace oK:=eq_true oK;have wE:0<=(dZ:Int):=of_decide_eq_true (by first|(with_reducible assumption)|assumption);have wF:dZ<(l0.length:Int):=of_decide_eq_true (by first|(with_reducible assumption)|assumption);obtain⟨L8,Mv,Vz,VA,VB⟩:=mF eN.out dZ wE wF;obtain rfl:uW=L8:=(by injection Mv)
         replace wE:=eq_true wE;replace wF:=eq_true wF;have Dh:0<=(dZ:Int):=of_decide_eq_true (by first|(with_reducible assumption)|assumption);have Di:dZ<(l0.length:Int):=of_decide_eq_true (by first|(with_reducible assumption)|assumption);obtain⟨WM,X4,abT,abU,abV⟩:=mF eN.out dZ Dh Di;obtain rfl:uW=WM:=(by injection X4)
         replace Dh:=eq_true Dh;replace Di:=eq_true Di;go_wp2
         go_meet
         case rel=>exact⟨_,(false),zR,H',⟨by have:=fL.out;first|omega|exact Nat.le_refl _⟩,by repeat(first|exact d_.refl _|apply d_.step)⟩
      ·rw[if_neg c7]at H
       have oH:=beq_eq_false_iff_ne.mpr c7;have Dg:=bne_iff_ne.mpr c7;by_cases c10:((eC l0 dZ).f0)=a2
       ·rw[if_pos c10]at H
        have oX:=beq_iff_eq.mpr c10;have C5:=bne_eq_false_iff_eq.mpr c10;clear c10;have H':=qa H;clear H;have oJ:0<=(dZ:Int):=of_decide_eq_true (by first|(with_reducible assumption)|assumption);have oK:dZ<(l0.length:Int):=of_decide_eq_true (by first|(with_reducible assumption)|assumption);obtain⟨uW,Bg,KZ,K0,K1⟩:=mF eN.out dZ oJ oK;cases Bg;replace oJ:=eq_true oJ;replace oK:=eq_true oK;have Dj:0<=(dZ:Int):=of_decide_eq_true (by first|(with_reducible assumption)|assumption);have Dk:dZ<(l0.length:Int):=of_decide_eq_true (by first|(with_reducible assumption)|assumption);obtain⟨WN,X5,abW,abX,abY⟩:=mF eN.out dZ Dj Dk;obtain rfl:uW=WN:=(by injection X5)
        replace Dj:=eq_true Dj;replace Dk:=eq_true Dk;have RH:0<=(dZ:Int):=of_decide_eq_true (by first|(with_reducible assumption)|assumption);have RJ:dZ<(l0.length:Int):=of_decide_eq_true (by first|(with_reducible assumption)|assumption);obtain⟨aqs,at8,amc,amd,ame⟩:=mF eN.out dZ RH RJ;obtain rfl:uW=aqs:=(by injection at8)
        replace RH:=eq_true RH;replace RJ:=eq_true RJ;go_wp2
        go_meet
        case rel=>exact⟨_,((((eC l0 dZ).f1)==a1)),zR,H',⟨by have:=fL.out;first|omega|exact Nat.le_refl _⟩,by repeat(first|exact d_.refl _|apply d_.step)⟩
       ·rw[if_neg c10]at H
        have oX:=beq_eq_false_iff_ne.mpr c10;have C5:=bne_iff_ne.mpr c10;have H':=qa H;clear H;have oJ:0<=(dZ:Int):=of_decide_eq_true (by first|(with_reducible assumption)|assumption);have oK:dZ<(l0.length:Int):=of_decide_eq_true (by first|(with_reducible assumption)|assumption);obtain⟨uW,Bg,KZ,K0,K1⟩:=mF eN.out dZ oJ oK;cases Bg;replace oJ:=eq_true oJ;replace oK:=eq_true oK;have Dj:0<=(dZ:Int):=of_decide_eq_true (by first|(with_reducible assumption)|assumption);have Dk:dZ<(l0.length:Int):=of_decide_eq_true (by first|(with_reducible assumption)|assumption);obtain⟨WN,X5,abW,abX,abY⟩:=mF eN.out dZ Dj Dk;obtain rfl:uW=WN:=(by injection X5)
        replace Dj:=eq_true Dj;replace Dk:=eq_true Dk;go_wp2
        go_meet
        case rel=>exact⟨_,(false),zR,H',⟨by have:=fL.out;first|omega|exact Nat.le_refl _⟩,by repeat(first|exact d_.refl _|apply d_.step)⟩
     ·rw[if_neg c6]at H
      exact absurd H (by simp)
    case rest =>
     clear G7;try clear c1;try clear c2;try clear p2;try clear q2;try clear hx2;try clear c4;try clear fW;try clear c6;try clear sS;try clear c7;try clear oH;try clear Dg;try clear c8;try clear agM;try clear agN;try clear c9;try clear Rz;try clear RB;try clear c10;try clear oX;try clear C5;try clear KZ;try clear K0;try clear K1;try clear Vz;try clear VA;try clear VB;try clear abT;try clear abU;try clear abV;try clear al';try clear ama;try clear amb;try clear abW;try clear abX;try clear abY;try clear amc;try clear amd;try clear ame;try clear p2;try clear oJ;try clear wE;try clear Dh;try clear RD;try clear Dj;try clear RH;try clear oK;try clear wF;try clear Di;try clear RE;try clear Dk;try clear RJ
     obtain⟨kq,QN,rfl,HA,Zw,⟨mc4,rfl⟩⟩:=hcut;cases kq with
     | zero=>exact absurd HA.out (by simp[jB.j1])
     | succ Zx =>
      have H:=HA.out;clear HA;simp only[jB.j1]at H;by_cases c11:QN=true
      ·subst c11
       rw[if_pos rfl]at H
       obtain rfl:=Option.some.inj H;go_wp2
       go_ret
       exact⟨by first|rfl|(simp;done)|(simp[*];done),by repeat(first|exact d_.refl _|apply d_.step)⟩
      ·replace c11:=Bool.eq_false_iff.mpr c11
       subst c11;rw[if_neg zn]at H
       have H':=qa H;clear H;go_wp2
       go_roundg Zx
       case measure=>have:=fL.out;have:=Zw.out;omega
       case rel=>exact⟨(wrap64 (dZ+1)),zR,H',⟨by have:=fL.out;have:=Zw.out;omega⟩,by repeat(first|exact d_.refl _|apply d_.step)⟩
   ·rw[if_neg c4]at H
    have fW:=decide_eq_false c4;clear c4;obtain rfl:=Option.some.inj H;go_wp2
    go_ret
    exact⟨by first|rfl|(simp;done)|(simp[*];done),by repeat(first|exact d_.refl _|apply d_.step)⟩
def vQ.f (af:Bool) (aa aj:ByteArray):Option (Bool):=if (aa.size:Int) > 100 then (some true) else (some (decide ((aj.size:Int) > 100)))
theorem vQ.calls (af:Bool) (aa aj:ByteArray) (r:Bool) (w:World) (h:vQ.f af aa aj=some r) :
  Calls Tryz.prog 43 #[.agg #[.bool af,.string aa,.string aj]] w fun e w'=>e = .returned (.bool r)/\Below w.heap.size w w':=by
 have ji:=Tryz.underlying40;have HB:=qa (Below.refl w.heap.size w);unfold vQ.f at h;have H:=h;clear h;by_cases c2:(aa.size:Int) > 100
 ·rw[if_pos c2]at H
  have ur:=decide_eq_true c2;have at9:decide (100<aa.size)=true:=decide_eq_true qo;clear c2;obtain rfl:=Option.some.inj H;go_enter Tryz.func43,Tryz.ntmps43;go_wp2_with (first|((with_reducible refine aR (N:=1) rfl ?_);(try(refine Et (by rfl) ?_;dsimp only));refine zY 1 #[.bool af,.string aa,.string aj] 40 ?_;intro aqt hg w3 ah hb;have WO:=qa (ah);have aqu:=zG hg HB;have aqv:=zG hg HB;replace HB:=zS HB hb;clear hb ah hg;obtain⟨P_,Qa,Qb,Qc,Qd,Qe⟩:=z3 WO))
  go_ret
  exact⟨zH,zT HB⟩
 ·rw[if_neg c2]at H
  have ur:=decide_eq_false c2;have at9:decide (100<aa.size)=false:=decide_eq_false qo;clear c2;obtain rfl:=Option.some.inj H;go_enter Tryz.func43,Tryz.ntmps43;go_wp2_with (first|((with_reducible refine aR (N:=1) rfl ?_);(try(refine Et (by rfl) ?_;dsimp only));refine zY 1 #[.bool af,.string aa,.string aj] 40 ?_;intro aqt hg w5 ah hb;have WO:=qa (ah);have aqu:=zG hg HB;have aqv:=zG hg HB;replace HB:=zS HB hb;clear hb ah hg;obtain⟨xu,xw,AJ,xx,xy,AK⟩:=z3 WO))
  go_ret
  exact⟨zH,zT HB⟩
open Go.Proofs.YtfcjnhkkfmgmpaaGreat Go.Proofs.YtfcjnhkkfmgmpaaGreat.aS in
def Ai.f (af:Bool) (aa:ByteArray):Option (Int):=some (ij af aa)
open Go.Proofs.YtfcjnhkkfmgmpaaGreat Go.Proofs.YtfcjnhkkfmgmpaaGreat.aS in
theorem Ai.calls (af:Bool) (aa:ByteArray) (r:Int) (w:World) (h:Ai.f af aa=some r) :
  Calls Tryz.prog 84 #[.agg #[.bool af,.string aa]] w fun e w'=>e = .returned (.int .i64 r)/\Below w.heap.size w w':=by
 unfold Ai.f at h;obtain rfl:=Option.some.inj h;exact alD _ _ w
open Go.Proofs.YtfcjnhkkfmgmpaaGreat Go.Proofs.YtfcjnhkkfmgmpaaGreat.aS in
def wY.f (af:Bool) (aa:ByteArray):Option (Int):=some (ij af aa)
open Go.Proofs.YtfcjnhkkfmgmpaaGreat Go.Proofs.YtfcjnhkkfmgmpaaGreat.aS in
theorem wY.calls (af:Bool) (aa:ByteArray) (r:Int) (w:World) (h:wY.f af aa=some r) :
  Calls Tryz.prog 107 #[.agg #[.bool af,.string aa]] w fun e w'=>e = .returned (.int .i64 r)/\Below w.heap.size w w':=by
 unfold wY.f at h;obtain rfl:=Option.some.inj h;exact OP _ _ w
def jL.f (af:Bool) (aa aj:ByteArray):Option (Bool × ByteArray):=some (false,aj)
theorem jL.calls (af:Bool) (aa aj:ByteArray) (r1:Bool) (r2:ByteArray) (w:World) (h:jL.f af aa aj=some (r1,r2)) :
  Calls Tryz.prog 108 #[.agg #[.bool af,.string aa,.string aj]] w fun e w'=>e = .returned (.agg #[.bool r1,.string r2])/\Below w.heap.size w w':=by
 have ji:=Tryz.underlying40;have Be:=Tryz.underlying38;have xW:=ze;have BJ:=zf;have hf2:=zg;have hf3:=zh;have HB:=qa (Below.refl w.heap.size w);unfold jL.f at h;have H:=h;clear h;simp only[Option.some.injEq,Prod.mk.injEq]at H;obtain⟨rfl,rfl⟩:=H;go_enter Tryz.func108,Tryz.ntmps108;go_wp2_with (first|((with_reducible refine aR (N:=1) rfl ?_);refine zY 1 #[.bool af,.string aa,.string aj] 40 ?_;intro azR hg w2 ah hb;have QX:=qa (ah);have azS:=zG hg HB;have azT:=zG hg HB;replace HB:=zS HB hb;clear hb ah hg)|((with_reducible refine aR (N:=2) rfl ?_);refine zY 2 #[.bool false,.string ⟨#[]⟩] 38 ?_;intro aqJ hg w3 ah hb;have aeK:=qa (ah);have azU:=zG hg HB;have azV:=zG hg HB;obtain⟨ajL,ajM⟩:=zQ hg QX;replace QX:=zB QX hb;replace HB:=zS HB hb;clear hb ah hg;have atW:=ajL.out;have atX:=ajM.out;obtain⟨Fv,Fw,Fx,Fy,Fz,FA⟩:=z3 QX;obtain⟨xu,xw,xx,xy⟩:=z2 aeK))
 refine bodyPost_ret (results_cell_row rfl _ _ aqJ 38 #[.bool false,.string aj] (0,0) _ rfl (Kx aeK) Tryz.underlying38 rfl qk) rfl ?_;exact⟨zH,zT HB⟩
open Go.Proofs.YtfcjnhkkfmgmpaaGreat Go.Proofs.YtfcjnhkkfmgmpaaGreat.aS in
def Aq.f (af:Bool) (aa:ByteArray) (aq:Bool) (ak:ByteArray):Option (Bool × ByteArray × Bool × ByteArray × Int):=if aa.size<=15000/\ak.size<=15000 then some ((wC (af,aa) (aq,ak)).1.1,(wC (af,aa) (aq,ak)).1.2,(wC (af,aa) (aq,ak)).2.1.1,(wC (af,aa) (aq,ak)).2.1.2,(wC (af,aa) (aq,ak)).2.2) else none
open Go.Proofs.YtfcjnhkkfmgmpaaGreat Go.Proofs.YtfcjnhkkfmgmpaaGreat.aS in
theorem Aq.calls (af:Bool) (aa:ByteArray) (aq:Bool) (ak:ByteArray) (r1:Bool) (r2:ByteArray) (r3:Bool) (r4:ByteArray) (r5:Int) (w:World) (h:Aq.f af aa aq ak=some (r1,r2,r3,r4,r5)) :
  Calls Tryz.prog 137 #[.agg #[.bool af,.string aa],.agg #[.bool aq,.string ak]] w fun e w'=>e = .returned (.tuple #[.agg #[.bool r1,.string r2],.agg #[.bool r3,.string r4],.int .i64 r5])/\Below w.heap.size w w':=by
 unfold Aq.f at h;split at h
 ·rename_i hc
  simp only[Option.some.injEq,Prod.mk.injEq]at h;obtain⟨rfl,rfl,rfl,rfl,rfl⟩:=h;exact api (af,aa) (aq,ak) hc.1 hc.2 w
 ·exact absurd h (by simp)
open Go.Proofs.YtfcjnhkkfmgmpaaGreat Go.Proofs.YtfcjnhkkfmgmpaaGreat.aS in
def Kz.f (a0:Int):Option (Bool × ByteArray):=if -9223372036854775808<=a0/\a0<=9223372036854775807 then some ((pv a0).1,(pv a0).2) else none
open Go.Proofs.YtfcjnhkkfmgmpaaGreat Go.Proofs.YtfcjnhkkfmgmpaaGreat.aS in
theorem Kz.calls (a0:Int) (r1:Bool) (r2:ByteArray) (w:World) (h:Kz.f a0=some (r1,r2)) :
  Calls Tryz.prog 73 #[.int .i64 a0] w fun e w'=>e = .returned (.agg #[.bool r1,.string r2])/\Below w.heap.size w w':=by
 unfold Kz.f at h;split at h
 ·rename_i hc
  simp only[Option.some.injEq,Prod.mk.injEq]at h;obtain⟨rfl,rfl⟩:=h;exact atV a0 hc.1 hc.2 w
 ·exact absurd h (by simp)
def Ep.f (a0:Int):Option (Bool × ByteArray × ByteArray):=(Kz.f a0).bind fun afS=>(some (afS.1,afS.2,(⟨#[1]⟩:ByteArray)))
theorem Ep.calls (a0:Int) (r1:Bool) (r2 r3:ByteArray) (w:World) (h:Ep.f a0=some (r1,r2,r3)) :
  Calls Tryz.prog 61 #[.int .i64 a0] w fun e w'=>e = .returned (.agg #[.bool r1,.string r2,.string r3])/\Below w.heap.size w w':=by
 have ji:=Tryz.underlying40;have HB:=qa (Below.refl w.heap.size w);unfold Ep.f at h;have H:=h;clear h;obtain⟨⟨ah4,ah5⟩,A2,H⟩:=zo H;try dsimp only at H
 simp only[Option.some.injEq,Prod.mk.injEq]at H;obtain⟨rfl,rfl,rfl⟩:=H;go_enter Tryz.func61,Tryz.ntmps61;go_wp2_with (first|((with_reducible refine aR (N:=2) rfl ?_);refine zY 2 #[.bool false,.string ⟨#[]⟩,.string ⟨#[]⟩] 40 ?_;intro asH hg w3 ah hb;have Rl:=qa (ah);have aBo:=zG hg HB;have aBp:=zG hg HB;replace HB:=zS HB hb;clear hb ah hg)|((with_reducible refine cU (f:=73) rfl ?_);refine zO Tryz.func73 qk (Kz.calls a0 ah4 ah5 _ A2.out) fun w4 hb=>?_;replace Rl:=zB Rl hb;replace HB:=zS HB hb;(try clear hb);obtain⟨Fv,Fw,Fx,Fy,Fz,FA⟩:=z3 Rl))
 refine bodyPost_ret (results_cell_row rfl _ _ asH 40 #[.bool ah4,.string ah5,.string (⟨#[1]⟩:ByteArray)] (0,0) _ rfl (Kx Rl) Tryz.underlying40 rfl qk) rfl ?_;exact⟨zH,zT HB⟩
end Go.Proofs.aA.R
