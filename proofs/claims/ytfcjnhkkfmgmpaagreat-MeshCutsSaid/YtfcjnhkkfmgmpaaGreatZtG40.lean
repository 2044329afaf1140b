import Derived.Test.YtfcjnhkkfmgmpaaGreatZtG38
import Derived.Test.YtfcjnhkkfmgmpaaGreatZtG48
set_option linter.all false
set_option maxRecDepth 100000
set_option maxHeartbeats 8000000
namespace Go.Proofs.aA.R
open Go.RowKit Go.Proofs.aA.Z Go.Proofs.aB.aZ Go.Proofs.aB.bT Go.Proofs.aB.bX
attribute [local go_sem] cm ct cz cA cj ck cu cw
open Go.Proofs.YtfcjnhkkfmgmpaaGreat Go.Proofs.YtfcjnhkkfmgmpaaGreat.aS in
def Cm.f (a0:ByteArray):Option (Bool):=some (sQ a0)
open Go.Proofs.YtfcjnhkkfmgmpaaGreat Go.Proofs.YtfcjnhkkfmgmpaaGreat.aS in
theorem Cm.calls (a0:ByteArray) (r:Bool) (w:World) (h:Cm.f a0=some r) :
  Calls Tryz.prog 85 #[.string a0] w fun e w'=>e = .returned (.bool r)/\Below w.heap.size w w':=by
 unfold Cm.f at h;obtain rfl:=Option.some.inj h;exact abq a0 w
def l_.f (k:Nat) (af:Bool) (aa aj:ByteArray) (aI:Bool) (aJ aK:ByteArray) (aq:Bool) (ak au:ByteArray) (aL:Bool) (aM aN:ByteArray) (aV:Bool) (aW aX:ByteArray) (bC:Bool) (bD bE:ByteArray):Option (Int):=(oo.f k aq ak au aL aM aN af aa aj aI aJ aK).bind fun Jn=>((oo.f k aV aW aX bC bD bE af aa aj aI aJ aK).bind fun Jo=>((Eu.f k Jn.1 Jn.2.1 Jn.2.2.1 Jn.2.2.2.1 Jn.2.2.2.2.1 Jn.2.2.2.2.2 Jo.1 Jo.2.1 Jo.2.2.1 Jo.2.2.2.1 Jo.2.2.2.2.1 Jo.2.2.2.2.2).bind fun Xh=>((Ap.f k Xh.1 Xh.2.1 Xh.2.2).bind fun Yn=>(some Yn))))
def l_.T1:Bool × List (List Nat × List Nat):=(true,[([],[]),([],[]),([0,1],[0,1]),([],[]),([],[]),([3,4,2],[3,4]),([2,5,5],[2,5]),([6,6],[6]),([7,7,0,1,2,3,4,5,6,7],[7])])
def l_.B1:List Nat:=[0,0,3,0,0,31,63,127,255]
theorem l_.vv:ia .any (opsOf Tryz.f57 1)=l_.T1:=by kernel_rfl
theorem l_.uU:nh l_.T1.2 l_.B1=true:=by kernel_rfl
theorem l_.calls (k:Nat) (af:Bool) (aa aj:ByteArray) (aI:Bool) (aJ aK:ByteArray) (aq:Bool) (ak au:ByteArray) (aL:Bool) (aM aN:ByteArray) (aV:Bool) (aW aX:ByteArray) (bC:Bool) (bD bE:ByteArray) (r:Int) (w:World) (h:l_.f k af aa aj aI aJ aK aq ak au aL aM aN aV aW aX bC bD bE=some r) :
  Calls Tryz.prog 57 #[.agg #[.bool af,.string aa,.string aj,.bool aI,.string aJ,.string aK],.agg #[.bool aq,.string ak,.string au,.bool aL,.string aM,.string aN],.agg #[.bool aV,.string aW,.string aX,.bool bC,.string bD,.string bE]] w fun e w'=>e = .returned (.int .i64 r)/\Below w.heap.size w w':=by
 have mq:=Tryz.underlying42;have HB:=qa (Below.refl w.heap.size w);unfold l_.f at h;have H:=h;clear h;obtain⟨⟨ahF,ahG,ahH,ahI,ahJ,ahK⟩,A4,H⟩:=zo H;try dsimp only at H
 obtain⟨⟨ahL,ahM,ahN,ahO,ahP,ahQ⟩,A5,H⟩:=zo H;try dsimp only at H
 obtain⟨⟨ahR,ahS,ahT⟩,A6,H⟩:=zo H;try dsimp only at H
 obtain⟨Yn,A7,H⟩:=zo H;obtain rfl:=Option.some.inj H;go_enter Tryz.func57,Tryz.ntmps57;try go_wp2_with (first|((with_reducible refine aR (N:=3) rfl ?_);refine zY 3 #[.bool af,.string aa,.string aj,.bool aI,.string aJ,.string aK] 42 ?_;intro Jp hg w8 ah hb;have eY:=qa (ah);have aBa:=zG hg HB;have aBb:=zG hg HB;replace HB:=zS HB hb;clear hb ah hg)|((with_reducible refine aR (N:=4) rfl ?_);refine zY 4 #[.bool aq,.string ak,.string au,.bool aL,.string aM,.string aN] 42 ?_;intro Jq hg w9 ah hb;have fR:=qa (ah);have aBc:=zG hg HB;have aBd:=zG hg HB;obtain⟨avw,avx⟩:=zQ hg eY;replace eY:=zB eY hb;replace HB:=zS HB hb;clear hb ah hg)|((with_reducible refine aR (N:=5) rfl ?_);refine zY 5 #[.bool aV,.string aW,.string aX,.bool bC,.string bD,.string bE] 42 ?_;intro Jr hg gI ah hb;have gN:=qa (ah);have aBe:=zG hg HB;have aBf:=zG hg HB;obtain⟨avy,avz⟩:=zQ hg eY;obtain⟨avA,avB⟩:=zQ hg fR;obtain⟨eY,fR⟩:=eo eY fR hb;replace HB:=zS HB hb;clear hb ah hg))
 replace eY:=zD eY;replace fR:=zD fR;replace gN:=zD gN;replace HB:=zF HB;refine mg (n:=9) (S:=fun w'=>w'.cell? ⟨Jq,0,none⟩=some (.bool aq)/\w'.cell? ⟨Jq,1,none⟩=some (.string ak)/\w'.cell? ⟨Jq,2,none⟩=some (.string au)/\w'.cell? ⟨Jq,3,none⟩=some (.bool aL)/\w'.cell? ⟨Jq,4,none⟩=some (.string aM)/\w'.cell? ⟨Jq,5,none⟩=some (.string aN)/\w'.cell? ⟨Jp,0,none⟩=some (.bool af)/\w'.cell? ⟨Jp,1,none⟩=some (.string aa)/\w'.cell? ⟨Jp,2,none⟩=some (.string aj)/\w'.cell? ⟨Jp,3,none⟩=some (.bool aI)/\w'.cell? ⟨Jp,4,none⟩=some (.string aJ)/\w'.cell? ⟨Jp,5,none⟩=some (.string aK)/\w'.cell? ⟨Jr,0,none⟩=some (.bool aV)/\w'.cell? ⟨Jr,1,none⟩=some (.string aW)/\w'.cell? ⟨Jr,2,none⟩=some (.string aX)/\w'.cell? ⟨Jr,3,none⟩=some (.bool bC)/\w'.cell? ⟨Jr,4,none⟩=some (.string bD)/\w'.cell? ⟨Jr,5,none⟩=some (.string bE)) (ds:=[]) (zb 9 0) qk rfl rfl ⟨zc fR 0,zc fR 1,zc fR 2,zc fR 3,zc fR 4,zc fR 5,zc eY 0,zc eY 1,zc eY 2,zc eY 3,zc eY 4,zc eY 5,zc gN 0,zc gN 1,zc gN 2,zc gN 3,zc gN 4,zc gN 5⟩ (fun hHeld=>?_);refine mZ l_.vv l_.uU (fun av bN=>?_);generalize gI.drew=lV at eY fR gN HB hHeld ⊢;refine zV (i:=0) (N:=some 7) (zb 9 1) (cg av.out bN.out qk) hHeld ?_;refine zV (i:=1) (N:=some 8) (zb 9 3) (cg av.out bN.out qk) hHeld ?_;refine zV (i:=3) (N:=some 10) (zb 9 11) (cg av.out bN.out qk) hHeld ?_;refine zV (i:=4) (N:=some 11) (zb 9 27) (cg av.out bN.out qk) hHeld ?_;refine bM (i:=2) (N:=some 9) (zb 9 31) rfl rfl (bO av.out qk) qd (fun K hK=>?_);refine zJ Tryz.func69 qk (oo.calls k aq ak au aL aM aN af aa aj aI aJ aK ahF ahG ahH ahI ahJ ahK _ A4.out) fun gh hb=>?_;obtain⟨eY,fR,gN⟩:=bB eY fR gN hb;replace HB:=zS HB hb
 (try clear hb)
 refine hK.out _ _ ⟨zc fR 0,zc fR 1,zc fR 2,zc fR 3,zc fR 4,zc fR 5,zc eY 0,zc eY 1,zc eY 2,zc eY 3,zc eY 4,zc eY 5,zc gN 0,zc gN 1,zc gN 2,zc gN 3,zc gN 4,zc gN 5⟩ (fun hHeld=>?_);clear hK K;refine zW (some 9) ?_;refine bM (i:=5) (N:=some 12) (zb 9 63) rfl rfl (bO av.out qk) qd (fun K hK=>?_);refine zJ Tryz.func69 qk (oo.calls k aV aW aX bC bD bE af aa aj aI aJ aK ahL ahM ahN ahO ahP ahQ _ A5.out) fun oP hb=>?_;obtain⟨eY,fR,gN⟩:=bB eY fR gN hb;replace HB:=zS HB hb
 (try clear hb)
 refine hK.out _ _ ⟨zc fR 0,zc fR 1,zc fR 2,zc fR 3,zc fR 4,zc fR 5,zc eY 0,zc eY 1,zc eY 2,zc eY 3,zc eY 4,zc eY 5,zc gN 0,zc gN 1,zc gN 2,zc gN 3,zc gN 4,zc gN 5⟩ (fun hHeld=>?_);clear hK K;refine zW (some 12) ?_;refine bM (i:=6) (N:=some 13) (zb 9 127) rfl rfl (bO av.out qk) qd (fun K hK=>?_);refine zJ Tryz.func68 qk (Eu.calls k ahF ahG ahH ahI ahJ ahK ahL ahM ahN ahO ahP ahQ ahR ahS ahT _ A6.out) fun iq hb=>?_;obtain⟨eY,fR,gN⟩:=bB eY fR gN hb;replace HB:=zS HB hb
 (try clear hb)
 refine hK.out _ _ ⟨zc fR 0,zc fR 1,zc fR 2,zc fR 3,zc fR 4,zc fR 5,zc eY 0,zc eY 1,zc eY 2,zc eY 3,zc eY 4,zc eY 5,zc gN 0,zc gN 1,zc gN 2,zc gN 3,zc gN 4,zc gN 5⟩ (fun hHeld=>?_);clear hK K;refine zW (some 13) ?_;refine bM (i:=7) (N:=some 14) (zb 9 255) rfl rfl (bO av.out qk) qd (fun K hK=>?_);refine zJ Tryz.func67 qk (Ap.calls k ahR ahS ahT Yn _ A7.out) fun tH hb=>?_;obtain⟨eY,fR,gN⟩:=bB eY fR gN hb;replace HB:=zS HB hb
 (try clear hb)
 refine hK.out _ _ ⟨zc fR 0,zc fR 1,zc fR 2,zc fR 3,zc fR 4,zc fR 5,zc eY 0,zc eY 1,zc eY 2,zc eY 3,zc eY 4,zc eY 5,zc gN 0,zc gN 1,zc gN 2,zc gN 3,zc gN 4,zc gN 5⟩ (fun hHeld=>?_);clear hK K;refine zW (some 14) ?_;refine zU (i:=8) (N:=some 6) (zb 9 511) (bf av.out qk) ?_;refine mh (ng av.out qk) ?_;try go_wp2
 go_ret
 exact⟨zH,zT HB⟩
theorem asw (d:Nat) (w:World) (x0 y0 x1 y1:Int) (x2 y2:Bool) :
  (Op.equalIn (d+2) 55 (.agg #[.int .i64 x0,.int .i64 x1,.bool x2]) (.agg #[.int .i64 y0,.int .i64 y1,.bool y2])).run Tryz.prog w = .ok (x0==y0&&(x1==y1&&(x2==y2))) w:=by
 refine PY Tryz.underlying55 qk ?_;refine KN (by rfl) (by go_simp;rfl) (by go_simp;rfl) (by go_simp) ?_;refine KN (by rfl) (by go_simp;rfl) (by go_simp;rfl) (by go_simp) ?_;exact OB (by rfl) (by go_simp;rfl) (by go_simp;rfl) (by go_simp)
end Go.Proofs.aA.R
namespace Go.Proofs.aA.R
open Go.RowKit Go.Proofs.aA.Z Go.Proofs.aB.aZ Go.Proofs.aB.bT Go.Proofs.aB.bX
attribute [local go_sem] cm ct cz cA cj ck cu cw
attribute [local go_sem high] asw
def rL.l0:Nat->List (mN)->List (mN)->Int->Option (Bool)
 | 0,_,_,_=>none
 | k+1,x0,x1,x5=>if x5<(x0.length:Int) then (if 0<=x5 then (if x5<(x1.length:Int) then (if (!(((eC x0 x5).f0)==((eC x1 x5).f0))||(!(((eC x0 x5).f1)==((eC x1 x5).f1))||(!(((eC x0 x5).f2)==((eC x1 x5).f2)))))=true then (some false) else (rL.l0 k x0 x1 (wrap64 (x5+1)))) else (none)) else (none)) else (some true)
def rL.f (k:Nat) (l0 l1:List (mN)):Option (Bool):=if (l0.length:Int)=(l1.length:Int) then (rL.l0 k l0 l1 0) else (some false)
theorem rL.calls (k:Nat) (A0:Option Addr) (c0:Nat) (l0:List (mN)) (A1:Option Addr) (c1:Nat) (l1:List (mN)) (r:Bool) (w:World) (dm:Kd.C qi w A0 l0.length l0) (hc0:l0.length<=c0) (hr1:Kd.C qi w A1 l1.length l1) (hc1:l1.length<=c1) (h:rL.f k l0 l1=some r) :
  Calls Tryz.prog 36 #[.slice A0 l0.length c0,.slice A1 l1.length c1] w fun e w'=>e = .returned (.bool r)/\d_ w w':=by
 have aCj:=Tryz.underlying55;have eN:=qa dm;have Ac:=qa hc0;clear dm hc0;have pH:=qa hr1;have yh:=qa hc1;clear hr1 hc1;unfold rL.f at h;have H:=h;clear h;by_cases c3:(l0.length:Int)=(l1.length:Int)
 ·rw[if_pos c3]at H
  have vw:=beq_iff_eq.mpr c3;have Gc:=bne_eq_false_iff_eq.mpr c3;have MZ:(l0.length==l1.length)=true:=by first|simpa using c3|(simp at c3 ⊢;omega)
  clear c3;have H':=qa H;clear H;go_enter Tryz.func36,Tryz.ntmps36;go_wp2
  repeat(go_quiet (fail);try go_wp2)
  go_loopg [5] k (fun kq v5 w'=>∃ (bR:Int),v5 = .int .i64 bR/\aO (rL.l0 kq l0 l1 bR=some r)/\aO (kq<=k)/\d_ w w')
  case atStart=>exact⟨(0),zR,H',⟨Nat.le_refl _⟩,by repeat(first|exact d_.refl _|apply d_.step)⟩
  case round =>
   clear H';try clear c1;try clear p2;try clear c3;try clear vw;try clear Gc;try clear MZ
   obtain⟨bR,rfl,HA,fL,⟨m1,rfl⟩⟩:=hrel;cases gk with
   | zero=>exact absurd HA.out (by simp[rL.l0])
   | succ k1 =>
    have H:=HA.out;clear HA;simp only[rL.l0]at H;by_cases c4:bR<(l0.length:Int)
    ·rw[if_pos c4]at H
     have fW:=decide_eq_true c4;clear c4;by_cases c5:0<=bR
     ·rw[if_pos c5]at H
      have xI:=decide_eq_true c5;clear c5;by_cases c6:bR<(l1.length:Int)
      ·rw[if_pos c6]at H
       have sS:=decide_eq_true c6;clear c6;by_cases c7:(!(((eC l0 bR).f0)==((eC l1 bR).f0))||(!(((eC l0 bR).f1)==((eC l1 bR).f1))||(!(((eC l0 bR).f2)==((eC l1 bR).f2)))))=true
       ·rw[if_pos c7]at H
        have oH:(!(((eC l0 bR).f0)==((eC l1 bR).f0))||(!(((eC l0 bR).f1)==((eC l1 bR).f1))||(!(((eC l0 bR).f2)==((eC l1 bR).f2)))))=true:=c7;clear c7;obtain rfl:=Option.some.inj H;have Gm:0<=(bR:Int):=of_decide_eq_true (by first|(with_reducible assumption)|assumption);have Gn:bR<(l0.length:Int):=of_decide_eq_true (by first|(with_reducible assumption)|assumption);obtain⟨asx,YA,aot,aou,aov⟩:=mF eN.out bR Gm Gn;cases YA;replace Gm:=eq_true Gm;replace Gn:=eq_true Gn;have Gp:0<=(bR:Int):=of_decide_eq_true (by first|(with_reducible assumption)|assumption);have Gq:bR<(l1.length:Int):=of_decide_eq_true (by first|(with_reducible assumption)|assumption);obtain⟨asy,YC,aow,aox,aoy⟩:=mF pH.out bR Gp Gq;cases YC;replace Gp:=eq_true Gp;replace Gq:=eq_true Gq;go_wp2
        repeat(go_quiet (fail);try go_wp2)
        go_ret
        exact⟨by first|rfl|(simp;done)|(simp[*];done),by repeat(first|exact d_.refl _|apply d_.step)⟩
       ·rw[if_neg c7]at H
        have oH:(!(((eC l0 bR).f0)==((eC l1 bR).f0))||(!(((eC l0 bR).f1)==((eC l1 bR).f1))||(!(((eC l0 bR).f2)==((eC l1 bR).f2)))))=false:=by simpa using c7
        clear c7;have H':=qa H;clear H;have Gm:0<=(bR:Int):=of_decide_eq_true (by first|(with_reducible assumption)|assumption);have Gn:bR<(l0.length:Int):=of_decide_eq_true (by first|(with_reducible assumption)|assumption);obtain⟨asx,YA,aot,aou,aov⟩:=mF eN.out bR Gm Gn;cases YA;replace Gm:=eq_true Gm;replace Gn:=eq_true Gn;have Gp:0<=(bR:Int):=of_decide_eq_true (by first|(with_reducible assumption)|assumption);have Gq:bR<(l1.length:Int):=of_decide_eq_true (by first|(with_reducible assumption)|assumption);obtain⟨asy,YC,aow,aox,aoy⟩:=mF pH.out bR Gp Gq;cases YC;replace Gp:=eq_true Gp;replace Gq:=eq_true Gq;go_wp2
        repeat(go_quiet (fail);try go_wp2)
        go_roundg k1
        case measure=>have:=fL.out;omega
        case rel=>exact⟨(wrap64 (bR+1)),zR,H',⟨by have:=fL.out;omega⟩,by repeat(first|exact d_.refl _|apply d_.step)⟩
      ·rw[if_neg c6]at H
       exact absurd H (by simp)
     ·rw[if_neg c5]at H
      exact absurd H (by simp)
    ·rw[if_neg c4]at H
     have fW:=decide_eq_false c4;clear c4;obtain rfl:=Option.some.inj H;go_wp2
     repeat(go_quiet (fail);try go_wp2)
     go_ret
     exact⟨by first|rfl|(simp;done)|(simp[*];done),by repeat(first|exact d_.refl _|apply d_.step)⟩
 ·rw[if_neg c3]at H
  have vw:=beq_eq_false_iff_ne.mpr c3;have Gc:=bne_iff_ne.mpr c3;have MZ:(l0.length==l1.length)=false:=by first|simpa using c3|(simp at c3 ⊢;omega)
  obtain rfl:=Option.some.inj H;go_enter Tryz.func36,Tryz.ntmps36;go_wp2
  repeat(go_quiet (fail);try go_wp2)
  go_ret
  exact⟨by first|rfl|(simp;done)|(simp[*];done),by repeat(first|exact d_.refl _|apply d_.step)⟩
end Go.Proofs.aA.R
namespace Go.Proofs.aA.R
open Go.RowKit Go.Proofs.aA.Z Go.Proofs.aB.aZ Go.Proofs.aB.bT Go.Proofs.aB.bX
attribute [local go_sem] cm ct cz cA cj ck cu cw
def aja.f (k:Nat) (af:Bool) (aa aj:ByteArray) (aI:Bool) (aJ aK:ByteArray) (aq:Bool) (ak au:ByteArray) (aL:Bool) (aM aN:ByteArray) (aV:Bool) (aW aX:ByteArray) (bC:Bool) (bD bE:ByteArray) (dU:Bool) (dV dW:ByteArray) (Dv:Bool) (Dw Dx:ByteArray):Option (Int × Int):=(ez.f k (([(⟨(⟨(⟨af,aa⟩:aG),aj⟩:aF),(⟨(⟨aI,aJ⟩:aG),aK⟩:aF)⟩:bg),(⟨(⟨(⟨aq,ak⟩:aG),au⟩:aF),(⟨(⟨aL,aM⟩:aG),aN⟩:aF)⟩:bg),(⟨(⟨(⟨aV,aW⟩:aG),aX⟩:aF),(⟨(⟨bC,bD⟩:aG),bE⟩:aF)⟩:bg),(⟨(⟨(⟨dU,dV⟩:aG),dW⟩:aF),(⟨(⟨Dv,Dw⟩:aG),Dx⟩:aF)⟩:bg)]:List (bg)))).bind fun aib=>(if aib=0 then ((l_.f k af aa aj aI aJ aK aq ak au aL aM aN aV aW aX bC bD bE).bind fun RS=>(if RS=0 then (some (0,6)) else ((l_.f k af aa aj aI aJ aK aq ak au aL aM aN dU dV dW Dv Dw Dx).bind fun au2=>((l_.f k aq ak au aL aM aN aV aW aX bC bD bE dU dV dW Dv Dw Dx).bind fun au3=>((l_.f k aV aW aX bC bD bE af aa aj aI aJ aK dU dV dW Dv Dw Dx).bind fun au4=>(some (mn (mn (wrap64 (RS*au2)) (wrap64 (RS*au3))) (wrap64 (RS*au4)),0))))))) else (some (0,aib)))
def yR.f (k:Nat) (af:Bool) (aa aj:ByteArray) (aI:Bool) (aJ aK:ByteArray) (aq:Bool) (ak au:ByteArray) (aL:Bool) (aM aN:ByteArray):Option (Bool × ByteArray × ByteArray × Int):=(rN.f k af aa aj aq ak au aI aJ aK aL aM aN).bind fun Rn=>(some (Rn.1,Rn.2.1,Rn.2.2.1,Rn.2.2.2))
theorem yR.calls (k:Nat) (af:Bool) (aa aj:ByteArray) (aI:Bool) (aJ aK:ByteArray) (aq:Bool) (ak au:ByteArray) (aL:Bool) (aM aN:ByteArray) (r1:Bool) (r2 r3:ByteArray) (r4:Int) (w:World) (h:yR.f k af aa aj aI aJ aK aq ak au aL aM aN=some (r1,r2,r3,r4)) :
  Calls Tryz.prog 83 #[.agg #[.bool af,.string aa,.string aj,.bool aI,.string aJ,.string aK],.agg #[.bool aq,.string ak,.string au,.bool aL,.string aM,.string aN]] w fun e w'=>e = .returned (.tuple #[.agg #[.bool r1,.string r2,.string r3],.int .i64 r4])/\Below w.heap.size w w':=by
 have mq:=Tryz.underlying42;have ji:=Tryz.underlying40;have HB:=qa (Below.refl w.heap.size w);unfold yR.f at h;have H:=h;clear h;obtain⟨⟨aim,ain,aio,au9⟩,A3,H⟩:=zo H;try dsimp only at H
 simp only[Option.some.injEq,Prod.mk.injEq]at H;obtain⟨rfl,rfl,rfl,rfl⟩:=H;go_enter Tryz.func83,Tryz.ntmps83;go_wp2_with (first|((with_reducible refine aR (N:=2) rfl ?_);refine zY 2 #[.bool af,.string aa,.string aj,.bool aI,.string aJ,.string aK] 42 ?_;intro aBs hg w4 ah hb;have AZ:=qa (ah);have aBt:=zG hg HB;have aBu:=zG hg HB;replace HB:=zS HB hb;clear hb ah hg)|((with_reducible refine aR (N:=3) rfl ?_);refine zY 3 #[.bool aq,.string ak,.string au,.bool aL,.string aM,.string aN] 42 ?_;intro aBv hg w5 ah hb;have Jz:=qa (ah);have aBw:=zG hg HB;have aBx:=zG hg HB;obtain⟨akt,aku⟩:=zQ hg AZ;replace AZ:=zB AZ hb;replace HB:=zS HB hb;clear hb ah hg)|((with_reducible refine aR (N:=4) rfl ?_);refine zY 4 #[.bool false,.string ⟨#[]⟩,.string ⟨#[]⟩] 40 ?_;intro asY hg w6 ah hb;have Ro:=qa (ah);have aBy:=zG hg HB;have aBz:=zG hg HB;obtain⟨akv,akw⟩:=zQ hg AZ;obtain⟨akx,aky⟩:=zQ hg Jz;obtain⟨AZ,Jz⟩:=eo AZ Jz hb;replace HB:=zS HB hb;clear hb ah hg;have JR:=akt.out;have JS:=aku.out;have zw:=akv.out;have zx:=akw.out;obtain⟨yU,yV,CU,Wc,Wd,We,yX,yY,CV,Wf,Wh,Wi⟩:=z6 AZ;have wk:=akx.out;have wm:=aky.out;obtain⟨tV,tW,tX,IM,IP,IQ,tY,tZ,t_,IU,IV,IW⟩:=z6 Jz)|((with_reducible refine cU (f:=97) rfl ?_);refine zO Tryz.func97 qk (rN.calls k af aa aj aq ak au aI aJ aK aL aM aN aim ain aio au9 _ A3.out) fun gh hb=>?_;obtain⟨AZ,Jz,Ro⟩:=bB AZ Jz Ro hb;replace HB:=zS HB hb;(try clear hb);obtain⟨EY,EZ,E6,E7,E8,E9⟩:=z3 Ro))
 refine bodyPost_ret (pP rfl _ _ asY 40 #[.bool aim,.string ain,.string aio] (0,0) _ rfl (Kx Ro) Tryz.underlying40 rfl qk) rfl ?_;exact⟨zH,zT HB⟩
end Go.Proofs.aA.R
