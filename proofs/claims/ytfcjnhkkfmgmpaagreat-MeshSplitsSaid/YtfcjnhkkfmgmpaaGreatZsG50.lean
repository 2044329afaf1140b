import Derived.Test.YtfcjnhkkfmgmpaaGreatZsG23
set_option linter.all false
set_option maxRecDepth 100000
set_option maxHeartbeats 8000000
namespace Go.Proofs.aC.R
open Go.RowKit Go.Proofs.aC.Z Go.Proofs.aD.bf Go.Proofs.aD.ck Go.Proofs.aD.cL
attribute [local go_sem] cY cZ dm dn cW cX dc dh
def ld.f (k:Nat) (af:Bool) (aa aj:ByteArray) (aN:Bool) (aO aP:ByteArray) (aq:Bool) (ak ay:ByteArray) (aS:Bool) (aT aU:ByteArray) (bz:Bool) (bA bB:ByteArray) (bO:Bool) (bP bQ:ByteArray):Option (Int):=(nA.f k aq ak ay aS aT aU af aa aj aN aO aP).bind fun F2=>((nA.f k bz bA bB bO bP bQ af aa aj aN aO aP).bind fun F3=>((pE.f k F2.1 F2.2.1 F2.2.2.1 F2.2.2.2.1 F2.2.2.2.2.1 F2.2.2.2.2.2 F3.1 F3.2.1 F3.2.2.1 F3.2.2.2.1 F3.2.2.2.2.1 F3.2.2.2.2.2).bind fun Tq=>((B9.f Tq.1 Tq.2.1 Tq.2.2).bind fun t218=>(some t218))))
def ld.T1:Bool × List (List Nat × List Nat):=(true,[([],[]),([],[]),([0,1],[0,1]),([],[]),([],[]),([3,4,2],[3,4]),([2,5,5],[2,5]),([6,6],[6]),([7,7,0,1,2,3,4,5,6,7],[7])])
def ld.B1:List Nat:=[0,0,3,0,0,31,63,127,255]
theorem ld.DB:gZ .any (opsOf Tryz.f34 1)=ld.T1:=by kernel_rfl
theorem ld.Dc:nG ld.T1.2 ld.B1=true:=by kernel_rfl
theorem ld.calls (k:Nat) (af:Bool) (aa aj:ByteArray) (aN:Bool) (aO aP:ByteArray) (aq:Bool) (ak ay:ByteArray) (aS:Bool) (aT aU:ByteArray) (bz:Bool) (bA bB:ByteArray) (bO:Bool) (bP bQ:ByteArray) (r:Int) (w:World) (h:ld.f k af aa aj aN aO aP aq ak ay aS aT aU bz bA bB bO bP bQ=some r) :
  Calls Tryz.prog 34 #[.agg #[.bool af,.string aa,.string aj,.bool aN,.string aO,.string aP],.agg #[.bool aq,.string ak,.string ay,.bool aS,.string aT,.string aU],.agg #[.bool bz,.string bA,.string bB,.bool bO,.string bP,.string bQ]] w fun e w'=>e = .returned (.int .i64 r)∧Below w.heap.size w w':=by
 have nZ:=Tryz.underlying42;have HB:=qa (Below.refl w.heap.size w);unfold ld.f at h;have H:=h;clear h;obtain⟨⟨t203,t204,t205,t206,t207,t208⟩,A4,H⟩:=zo H;try dsimp only at H
 obtain⟨⟨t209,t210,t211,t212,t213,t214⟩,A5,H⟩:=zo H;try dsimp only at H
 obtain⟨⟨t215,t216,t217⟩,A6,H⟩:=zo H;try dsimp only at H
 obtain⟨t218,A7,H⟩:=zo H;obtain rfl:=Option.some.inj H;go_enter Tryz.func34,Tryz.ntmps34;try go_wp2_with (first|((with_reducible refine aZ (N:=3) rfl ?_);refine zY 3 #[.bool af,.string aa,.string aj,.bool aN,.string aO,.string aP] 42 ?_;intro F4 hg w8 ah hb;have eO:=qa (ah);have axi:=zG hg HB;have axj:=zG hg HB;replace HB:=zS HB hb;clear hb ah hg)|((with_reducible refine aZ (N:=4) rfl ?_);refine zY 4 #[.bool aq,.string ak,.string ay,.bool aS,.string aT,.string aU] 42 ?_;intro F5 hg w9 ah hb;have fC:=qa (ah);have axk:=zG hg HB;have axl:=zG hg HB;obtain⟨aqE,aqF⟩:=zQ hg eO;replace eO:=zB eO hb;replace HB:=zS HB hb;clear hb ah hg)|((with_reducible refine aZ (N:=5) rfl ?_);refine zY 5 #[.bool bz,.string bA,.string bB,.bool bO,.string bP,.string bQ] 42 ?_;intro F6 hg g_ ah hb;have gh:=qa (ah);have axm:=zG hg HB;have axn:=zG hg HB;obtain⟨aqG,aqH⟩:=zQ hg eO;obtain⟨aqI,aqJ⟩:=zQ hg fC;obtain⟨eO,fC⟩:=fN eO fC hb;replace HB:=zS HB hb;clear hb ah hg))
 replace eO:=zD eO;replace fC:=zD fC;replace gh:=zD gh;replace HB:=zF HB;refine l_ (n:=9) (S:=fun w'=>w'.cell? ⟨F5,0,none⟩=some (.bool aq)∧w'.cell? ⟨F5,1,none⟩=some (.string ak)∧w'.cell? ⟨F5,2,none⟩=some (.string ay)∧w'.cell? ⟨F5,3,none⟩=some (.bool aS)∧w'.cell? ⟨F5,4,none⟩=some (.string aT)∧w'.cell? ⟨F5,5,none⟩=some (.string aU)∧w'.cell? ⟨F4,0,none⟩=some (.bool af)∧w'.cell? ⟨F4,1,none⟩=some (.string aa)∧w'.cell? ⟨F4,2,none⟩=some (.string aj)∧w'.cell? ⟨F4,3,none⟩=some (.bool aN)∧w'.cell? ⟨F4,4,none⟩=some (.string aO)∧w'.cell? ⟨F4,5,none⟩=some (.string aP)∧w'.cell? ⟨F6,0,none⟩=some (.bool bz)∧w'.cell? ⟨F6,1,none⟩=some (.string bA)∧w'.cell? ⟨F6,2,none⟩=some (.string bB)∧w'.cell? ⟨F6,3,none⟩=some (.bool bO)∧w'.cell? ⟨F6,4,none⟩=some (.string bP)∧w'.cell? ⟨F6,5,none⟩=some (.string bQ)) (ds:=[]) (zb 9 0) (by kernel_rfl) rfl rfl ⟨zc fC 0,zc fC 1,zc fC 2,zc fC 3,zc fC 4,zc fC 5,zc eO 0,zc eO 1,zc eO 2,zc eO 3,zc eO 4,zc eO 5,zc gh 0,zc gh 1,zc gh 2,zc gh 3,zc gh 4,zc gh 5⟩ (fun hHeld=>?_);refine nC ld.DB ld.Dc (fun av bH=>?_);generalize g_.drew=kD at eO fC gh HB hHeld ⊢;refine zV (i:=0) (N:=some 7) (zb 9 1) (bV av.out bH.out (by kernel_rfl)) hHeld ?_;refine zV (i:=1) (N:=some 8) (zb 9 3) (bV av.out bH.out (by kernel_rfl)) hHeld ?_;refine zV (i:=3) (N:=some 10) (zb 9 11) (bV av.out bH.out (by kernel_rfl)) hHeld ?_;refine zV (i:=4) (N:=some 11) (zb 9 27) (bV av.out bH.out (by kernel_rfl)) hHeld ?_;refine bN (i:=2) (N:=some 9) (zb 9 31) rfl rfl (bS av.out (by kernel_rfl)) (by decide) (fun K hK=>?_);refine zJ Tryz.func55 (by kernel_rfl) (nA.calls k aq ak ay aS aT aU af aa aj aN aO aP t203 t204 t205 t206 t207 t208 _ A4.out) fun jd hb=>?_;obtain⟨eO,fC,gh⟩:=bL eO fC gh hb;replace HB:=zS HB hb
 (try clear hb)
 refine hK.out _ _ ⟨zc fC 0,zc fC 1,zc fC 2,zc fC 3,zc fC 4,zc fC 5,zc eO 0,zc eO 1,zc eO 2,zc eO 3,zc eO 4,zc eO 5,zc gh 0,zc gh 1,zc gh 2,zc gh 3,zc gh 4,zc gh 5⟩ (fun hHeld=>?_);clear hK K;refine zW (some 9) ?_;refine bN (i:=5) (N:=some 12) (zb 9 63) rfl rfl (bS av.out (by kernel_rfl)) (by decide) (fun K hK=>?_);refine zJ Tryz.func55 (by kernel_rfl) (nA.calls k bz bA bB bO bP bQ af aa aj aN aO aP t209 t210 t211 t212 t213 t214 _ A5.out) fun rY hb=>?_;obtain⟨eO,fC,gh⟩:=bL eO fC gh hb;replace HB:=zS HB hb
 (try clear hb)
 refine hK.out _ _ ⟨zc fC 0,zc fC 1,zc fC 2,zc fC 3,zc fC 4,zc fC 5,zc eO 0,zc eO 1,zc eO 2,zc eO 3,zc eO 4,zc eO 5,zc gh 0,zc gh 1,zc gh 2,zc gh 3,zc gh 4,zc gh 5⟩ (fun hHeld=>?_);clear hK K;refine zW (some 12) ?_;refine bN (i:=6) (N:=some 13) (zb 9 127) rfl rfl (bS av.out (by kernel_rfl)) (by decide) (fun K hK=>?_);refine zJ Tryz.func54 (by kernel_rfl) (pE.calls k t203 t204 t205 t206 t207 t208 t209 t210 t211 t212 t213 t214 t215 t216 t217 _ A6.out) fun xp hb=>?_;obtain⟨eO,fC,gh⟩:=bL eO fC gh hb;replace HB:=zS HB hb
 (try clear hb)
 refine hK.out _ _ ⟨zc fC 0,zc fC 1,zc fC 2,zc fC 3,zc fC 4,zc fC 5,zc eO 0,zc eO 1,zc eO 2,zc eO 3,zc eO 4,zc eO 5,zc gh 0,zc gh 1,zc gh 2,zc gh 3,zc gh 4,zc gh 5⟩ (fun hHeld=>?_);clear hK K;refine zW (some 13) ?_;refine bN (i:=7) (N:=some 14) (zb 9 255) rfl rfl (bS av.out (by kernel_rfl)) (by decide) (fun K hK=>?_);refine zJ Tryz.func53 (by kernel_rfl) (B9.calls t215 t216 t217 t218 _ A7.out) fun Pw hb=>?_;obtain⟨eO,fC,gh⟩:=bL eO fC gh hb;replace HB:=zS HB hb
 (try clear hb)
 refine hK.out _ _ ⟨zc fC 0,zc fC 1,zc fC 2,zc fC 3,zc fC 4,zc fC 5,zc eO 0,zc eO 1,zc eO 2,zc eO 3,zc eO 4,zc eO 5,zc gh 0,zc gh 1,zc gh 2,zc gh 3,zc gh 4,zc gh 5⟩ (fun hHeld=>?_);clear hK K;refine zW (some 14) ?_;refine zU (i:=8) (N:=some 6) (zb 9 511) (a_ av.out (by kernel_rfl)) ?_;refine mj (nE av.out (by kernel_rfl)) ?_;try go_wp2
 go_ret
 exact⟨zH,zT HB⟩
end Go.Proofs.aC.R
namespace Go.Proofs.aC.R
open Go.RowKit Go.Proofs.aC.Z Go.Proofs.aD.bf Go.Proofs.aD.ck Go.Proofs.aD.cL
attribute [local go_sem] cY cZ dm dn cW cX dc dh
attribute [local go_sem high] aof
def pU.l0:Nat→List (aX)→List (aX)→Int→Option (Bool)
 | 0,_,_,_=>none
 | k+1,x0,x1,x5=>if x5<(x0.length:Int) then (if 0≤x5 then (if x5<(x1.length:Int) then (if (((!(((au x0 x5).f0.f0.f0)==((au x1 x5).f0.f0.f0))||(!((((au x0 x5).f0.f0.f1).toList)==(((au x1 x5).f0.f0.f1).toList))))||(!((((au x0 x5).f0.f1).toList)==(((au x1 x5).f0.f1).toList))))||(((!(((au x0 x5).f1.f0.f0)==((au x1 x5).f1.f0.f0))||(!((((au x0 x5).f1.f0.f1).toList)==(((au x1 x5).f1.f0.f1).toList))))||(!((((au x0 x5).f1.f1).toList)==(((au x1 x5).f1.f1).toList))))))=true then (some false) else (pU.l0 k x0 x1 (wrap64 (x5+1)))) else (none)) else (none)) else (some true)
def pU.f (k:Nat) (l0 l1:List (aX)):Option (Bool):=if (l0.length:Int)=(l1.length:Int) then (pU.l0 k l0 l1 0) else (some false)
theorem pU.calls (k:Nat) (A0:Option Addr) (c0:Nat) (l0:List (aX)) (A1:Option Addr) (c1:Nat) (l1:List (aX)) (r:Bool) (w:World) (dL:Kd.C dF w A0 l0.length l0) (hc0:l0.length≤c0) (hr1:Kd.C dF w A1 l1.length l1) (hc1:l1.length≤c1) (h:pU.f k l0 l1=some r) :
  Calls Tryz.prog 35 #[.slice A0 l0.length c0,.slice A1 l1.length c1] w fun e w'=>e = .returned (.bool r)∧dZ w w':=by
 have nZ:=Tryz.underlying42;have eF:=qa dL;have xq:=qa hc0;clear dL hc0;have og:=qa hr1;have xx:=qa hc1;clear hr1 hc1;unfold pU.f at h;have H:=h;clear h;by_cases c3:(l0.length:Int)=(l1.length:Int)
 ·rw[if_pos c3]at H
  have sR:=beq_iff_eq.mpr c3;have DI:=bne_eq_false_iff_eq.mpr c3;have Kp:(l0.length==l1.length)=true:=by first|simpa using c3|(simp at c3 ⊢;omega)
  clear c3;have H':=qa H;clear H;go_enter Tryz.func35,Tryz.ntmps35;go_wp2
  repeat(go_quiet (fail);try go_wp2)
  go_loopg [5] k (fun kq v5 w'=>∃ (bK:Int),v5 = .int .i64 bK∧aM (pU.l0 kq l0 l1 bK=some r)∧aM (kq≤k)∧dZ w w')
  case atStart=>exact⟨(0),zR,H',⟨Nat.le_refl _⟩,by repeat(first|exact dZ.refl _|apply dZ.step)⟩
  case round =>
   clear H';try clear c1;try clear p2;try clear c3;try clear sR;try clear DI;try clear Kp
   obtain⟨bK,rfl,HA,fY,⟨m1,rfl⟩⟩:=hrel;cases gk with
   | zero=>exact absurd HA.out (by simp[pU.l0])
   | succ k1 =>
    have H:=HA.out;clear HA;simp only[pU.l0]at H;by_cases c4:bK<(l0.length:Int)
    ·rw[if_pos c4]at H
     have fI:=decide_eq_true c4;clear c4;by_cases c5:0≤bK
     ·rw[if_pos c5]at H
      have J0:=decide_eq_true c5;clear c5;by_cases c6:bK<(l1.length:Int)
      ·rw[if_pos c6]at H
       have qF:=decide_eq_true c6;clear c6;by_cases c7:(((!(((au l0 bK).f0.f0.f0)==((au l1 bK).f0.f0.f0))||(!((((au l0 bK).f0.f0.f1).toList)==(((au l1 bK).f0.f0.f1).toList))))||(!((((au l0 bK).f0.f1).toList)==(((au l1 bK).f0.f1).toList))))||(((!(((au l0 bK).f1.f0.f0)==((au l1 bK).f1.f0.f0))||(!((((au l0 bK).f1.f0.f1).toList)==(((au l1 bK).f1.f0.f1).toList))))||(!((((au l0 bK).f1.f1).toList)==(((au l1 bK).f1.f1).toList))))))=true
       ·rw[if_pos c7]at H
        have nN:(((!(((au l0 bK).f0.f0.f0)==((au l1 bK).f0.f0.f0))||(!((((au l0 bK).f0.f0.f1).toList)==(((au l1 bK).f0.f0.f1).toList))))||(!((((au l0 bK).f0.f1).toList)==(((au l1 bK).f0.f1).toList))))||(((!(((au l0 bK).f1.f0.f0)==((au l1 bK).f1.f0.f0))||(!((((au l0 bK).f1.f0.f1).toList)==(((au l1 bK).f1.f0.f1).toList))))||(!((((au l0 bK).f1.f1).toList)==(((au l1 bK).f1.f1).toList))))))=true:=c7;clear c7;obtain rfl:=Option.some.inj H;have DS:0≤(bK:Int):=of_decide_eq_true (by first|(with_reducible assumption)|assumption);have DT:bK<(l0.length:Int):=of_decide_eq_true (by first|(with_reducible assumption)|assumption);obtain⟨aog,U7,ajY,ajZ,aj0,aj1,aj2,aj3⟩:=nJ eF.out bK DS DT;cases U7;replace DS:=eq_true DS;replace DT:=eq_true DT;have DU:0≤(bK:Int):=of_decide_eq_true (by first|(with_reducible assumption)|assumption);have DV:bK<(l1.length:Int):=of_decide_eq_true (by first|(with_reducible assumption)|assumption);obtain⟨aoh,U8,aj4,aj5,aj6,aj7,aj8,aj9⟩:=nJ og.out bK DU DV;cases U8;replace DU:=eq_true DU;replace DV:=eq_true DV;go_wp2
        repeat(go_quiet (fail);try go_wp2)
        go_ret
        exact⟨by first|rfl|(simp;done)|(simp[*];done),by repeat(first|exact dZ.refl _|apply dZ.step)⟩
       ·rw[if_neg c7]at H
        have nN:(((!(((au l0 bK).f0.f0.f0)==((au l1 bK).f0.f0.f0))||(!((((au l0 bK).f0.f0.f1).toList)==(((au l1 bK).f0.f0.f1).toList))))||(!((((au l0 bK).f0.f1).toList)==(((au l1 bK).f0.f1).toList))))||(((!(((au l0 bK).f1.f0.f0)==((au l1 bK).f1.f0.f0))||(!((((au l0 bK).f1.f0.f1).toList)==(((au l1 bK).f1.f0.f1).toList))))||(!((((au l0 bK).f1.f1).toList)==(((au l1 bK).f1.f1).toList))))))=false:=by simpa using c7
        clear c7;have H':=qa H;clear H;have DS:0≤(bK:Int):=of_decide_eq_true (by first|(with_reducible assumption)|assumption);have DT:bK<(l0.length:Int):=of_decide_eq_true (by first|(with_reducible assumption)|assumption);obtain⟨aog,U7,ajY,ajZ,aj0,aj1,aj2,aj3⟩:=nJ eF.out bK DS DT;cases U7;replace DS:=eq_true DS;replace DT:=eq_true DT;have DU:0≤(bK:Int):=of_decide_eq_true (by first|(with_reducible assumption)|assumption);have DV:bK<(l1.length:Int):=of_decide_eq_true (by first|(with_reducible assumption)|assumption);obtain⟨aoh,U8,aj4,aj5,aj6,aj7,aj8,aj9⟩:=nJ og.out bK DU DV;cases U8;replace DU:=eq_true DU;replace DV:=eq_true DV;go_wp2
        repeat(go_quiet (fail);try go_wp2)
        go_roundg k1
        case measure=>have:=fY.out;omega
        case rel=>exact⟨(wrap64 (bK+1)),zR,H',⟨by have:=fY.out;omega⟩,by repeat(first|exact dZ.refl _|apply dZ.step)⟩
      ·rw[if_neg c6]at H
       exact absurd H (by simp)
     ·rw[if_neg c5]at H
      exact absurd H (by simp)
    ·rw[if_neg c4]at H
     have fI:=decide_eq_false c4;clear c4;obtain rfl:=Option.some.inj H;go_wp2
     repeat(go_quiet (fail);try go_wp2)
     go_ret
     exact⟨by first|rfl|(simp;done)|(simp[*];done),by repeat(first|exact dZ.refl _|apply dZ.step)⟩
 ·rw[if_neg c3]at H
  have sR:=beq_eq_false_iff_ne.mpr c3;have DI:=bne_iff_ne.mpr c3;have Kp:(l0.length==l1.length)=false:=by first|simpa using c3|(simp at c3 ⊢;omega)
  obtain rfl:=Option.some.inj H;go_enter Tryz.func35,Tryz.ntmps35;go_wp2
  repeat(go_quiet (fail);try go_wp2)
  go_ret
  exact⟨by first|rfl|(simp;done)|(simp[*];done),by repeat(first|exact dZ.refl _|apply dZ.step)⟩
end Go.Proofs.aC.R
namespace Go.Proofs.aC.R
open Go.RowKit Go.Proofs.aC.Z Go.Proofs.aD.bf Go.Proofs.aD.ck Go.Proofs.aD.cL
attribute [local go_sem] cY cZ dm dn cW cX dc dh
def pz.f (k:Nat) (af:Bool) (aa aj:ByteArray) (aN:Bool) (aO aP:ByteArray) (aq:Bool) (ak ay:ByteArray) (aS:Bool) (aT aU:ByteArray) (bz:Bool) (bA bB:ByteArray) (bO:Bool) (bP bQ:ByteArray) (ct:Bool) (cu cw:ByteArray) (eJ:Bool) (eL eM:ByteArray):Option (Int):=(ld.f k af aa aj aN aO aP aq ak ay aS aT aU bz bA bB bO bP bQ).bind fun qI=>((ld.f k af aa aj aN aO aP aq ak ay aS aT aU ct cu cw eJ eL eM).bind fun GL=>((ld.f k aq ak ay aS aT aU bz bA bB bO bP bQ ct cu cw eJ eL eM).bind fun GM=>((ld.f k bz bA bB bO bP bQ af aa aj aN aO aP ct cu cw eJ eL eM).bind fun D_=>(some (mn (mn (wrap64 (qI*GL)) (wrap64 (qI*GM))) (wrap64 (qI*D_)))))))
def pz.T2:Bool × List (List Nat × List Nat):=(true,[([],[]),([],[]),([],[]),([],[]),([1,2,3],[1,2,3]),([0,4],[0,4]),([],[]),([],[]),([],[]),([],[]),([7,8,9,4],[7,8,9]),([6,10],[6,10]),([],[]),([],[]),([],[]),([],[]),([13,14,15,10],[13,14,15]),([12,16],[12,16]),([5,11,17],[5,11,17]),([18,16,0,1,2,3,4,5,6,7,8,9,10,11,12,13,14,15,16,17,18],[18])])
def pz.B2:List Nat:=[0,0,0,0,14,31,0,0,0,0,926,2014,0,0,0,0,59294,128926,262143,524287]
theorem pz.aqs:gZ .any (opsOf Tryz.f39 2)=pz.T2:=by kernel_rfl
theorem pz.bits2:nG pz.T2.2 pz.B2=true:=by kernel_rfl
theorem pz.calls (k:Nat) (af:Bool) (aa aj:ByteArray) (aN:Bool) (aO aP:ByteArray) (aq:Bool) (ak ay:ByteArray) (aS:Bool) (aT aU:ByteArray) (bz:Bool) (bA bB:ByteArray) (bO:Bool) (bP bQ:ByteArray) (ct:Bool) (cu cw:ByteArray) (eJ:Bool) (eL eM:ByteArray) (r:Int) (w:World) (h:pz.f k af aa aj aN aO aP aq ak ay aS aT aU bz bA bB bO bP bQ ct cu cw eJ eL eM=some r) :
  Calls Tryz.prog 39 #[.agg #[.bool af,.string aa,.string aj,.bool aN,.string aO,.string aP],.agg #[.bool aq,.string ak,.string ay,.bool aS,.string aT,.string aU],.agg #[.bool bz,.string bA,.string bB,.bool bO,.string bP,.string bQ],.agg #[.bool ct,.string cu,.string cw,.bool eJ,.string eL,.string eM]] w fun e w'=>e = .returned (.int .i64 r)∧Below w.heap.size w w':=by
 have nZ:=Tryz.underlying42;have HB:=qa (Below.refl w.heap.size w);unfold pz.f at h;have H:=h;clear h;obtain⟨qI,A5,H⟩:=zo H;obtain⟨GL,A6,H⟩:=zo H;obtain⟨GM,A7,H⟩:=zo H;obtain⟨D_,A8,H⟩:=zo H;obtain⟨LF,Be⟩:∃ j_:Int,(mn (wrap64 (qI*GL)) (wrap64 (qI*GM)))=j_:=⟨_,rfl⟩
 replace H:(some (mn (LF) (wrap64 (qI*D_))))=some r:=by first|(rw[Be]at H;exact H)|(simp only[Be]at H ⊢;exact H)
 (try rw[Be]at A5)
 (try rw[Be]at A6)
 (try rw[Be]at A7)
 (try rw[Be]at A8)
 have azl:(if (wrap64 (qI*GM))<(wrap64 (qI*GL)) then (wrap64 (qI*GM)) else (wrap64 (qI*GL)))=LF:=Be;obtain⟨aeg,AG⟩:∃ j_:Int,(mn (LF) (wrap64 (qI*D_)))=j_:=⟨_,rfl⟩
 replace H:(some aeg)=some r:=by first|(rw[AG]at H;exact H)|(simp only[AG]at H ⊢;exact H)
 (try rw[AG]at A5)
 (try rw[AG]at A6)
 (try rw[AG]at A7)
 (try rw[AG]at A8)
 have awA:(if (wrap64 (qI*D_))<(LF) then (wrap64 (qI*D_)) else (LF))=aeg:=AG;obtain rfl:=Option.some.inj H;go_enter Tryz.func39,Tryz.ntmps39;try go_wp2_with (first|((with_reducible refine aZ (N:=4) rfl ?_);refine zY 4 #[.bool af,.string aa,.string aj,.bool aN,.string aO,.string aP] 42 ?_;intro Gn hg kD ah hb;have fk:=qa (ah);have azm:=zG hg HB;have azn:=zG hg HB;replace HB:=zS HB hb;clear hb ah hg)|((with_reducible refine aZ (N:=5) rfl ?_);refine zY 5 #[.bool aq,.string ak,.string ay,.bool aS,.string aT,.string aU] 42 ?_;intro Gp hg jd ah hb;have fX:=qa (ah);have azo:=zG hg HB;have azp:=zG hg HB;obtain⟨afU,afV⟩:=zQ hg fk;replace fk:=zB fk hb;replace HB:=zS HB hb;clear hb ah hg)|((with_reducible refine aZ (N:=6) rfl ?_);refine zY 6 #[.bool bz,.string bA,.string bB,.bool bO,.string bP,.string bQ] 42 ?_;intro Gq hg rY ah hb;have gL:=qa (ah);have azq:=zG hg HB;have azr:=zG hg HB;obtain⟨afW,afX⟩:=zQ hg fk;obtain⟨afY,afZ⟩:=zQ hg fX;obtain⟨fk,fX⟩:=fN fk fX hb;replace HB:=zS HB hb;clear hb ah hg)|((with_reducible refine aZ (N:=7) rfl ?_);refine zY 7 #[.bool ct,.string cu,.string cw,.bool eJ,.string eL,.string eM] 42 ?_;intro Gr hg xp ah hb;have iw:=qa (ah);have azs:=zG hg HB;have azt:=zG hg HB;obtain⟨af0,af1⟩:=zQ hg fk;obtain⟨af2,af3⟩:=zQ hg fX;obtain⟨af4,af5⟩:=zQ hg gL;obtain⟨fk,fX,gL⟩:=bL fk fX gL hb;replace HB:=zS HB hb;clear hb ah hg;have AA:=afU.out;have AB:=afV.out;have JN:=afW.out;have JO:=afX.out;have NU:=af0.out;have NV:=af1.out;obtain⟨ML,MM,MN,ajr,ajs,ajt,MP,MQ,MR,aju,ajv,ajw⟩:=z6 fk;have Tb:=afY.out;have Tc:=afZ.out;have NS:=af2.out;have NT:=af3.out;obtain⟨CA,CB,Jc,ZE,ZF,ZG,CC,CD,Jd,ZH,ZI,ZJ⟩:=z6 fX;have ab2:=af4.out;have ab3:=af5.out;obtain⟨Si,Sj,Sk,awf,awg,awh,Sl,Sm,Sn,awi,awj,awk⟩:=z6 gL)|((with_reducible refine dB (f:=34) rfl ?_);refine zO Tryz.func34 (by kernel_rfl) (ld.calls k af aa aj aN aO aP aq ak ay aS aT aU bz bA bB bO bP bQ qI _ A5.out) fun zf hb=>?_;obtain⟨fk,fX,gL,iw⟩:=iF fk fX gL iw hb;replace HB:=zS HB hb;(try clear hb)))
 replace fk:=zD fk;replace fX:=zD fX;replace gL:=zD gL;replace iw:=zD iw;replace HB:=zF HB;refine l_ (n:=20) (S:=fun w'=>w'.cell? ⟨Gn,0,none⟩=some (.bool af)∧w'.cell? ⟨Gn,1,none⟩=some (.string aa)∧w'.cell? ⟨Gn,2,none⟩=some (.string aj)∧w'.cell? ⟨Gn,3,none⟩=some (.bool aN)∧w'.cell? ⟨Gn,4,none⟩=some (.string aO)∧w'.cell? ⟨Gn,5,none⟩=some (.string aP)∧w'.cell? ⟨Gp,0,none⟩=some (.bool aq)∧w'.cell? ⟨Gp,1,none⟩=some (.string ak)∧w'.cell? ⟨Gp,2,none⟩=some (.string ay)∧w'.cell? ⟨Gp,3,none⟩=some (.bool aS)∧w'.cell? ⟨Gp,4,none⟩=some (.string aT)∧w'.cell? ⟨Gp,5,none⟩=some (.string aU)∧w'.cell? ⟨Gr,0,none⟩=some (.bool ct)∧w'.cell? ⟨Gr,1,none⟩=some (.string cu)∧w'.cell? ⟨Gr,2,none⟩=some (.string cw)∧w'.cell? ⟨Gr,3,none⟩=some (.bool eJ)∧w'.cell? ⟨Gr,4,none⟩=some (.string eL)∧w'.cell? ⟨Gr,5,none⟩=some (.string eM)∧w'.cell? ⟨Gq,0,none⟩=some (.bool bz)∧w'.cell? ⟨Gq,1,none⟩=some (.string bA)∧w'.cell? ⟨Gq,2,none⟩=some (.string bB)∧w'.cell? ⟨Gq,3,none⟩=some (.bool bO)∧w'.cell? ⟨Gq,4,none⟩=some (.string bP)∧w'.cell? ⟨Gq,5,none⟩=some (.string bQ)) (ds:=[]) (zb 20 0) (by kernel_rfl) rfl rfl ⟨zc fk 0,zc fk 1,zc fk 2,zc fk 3,zc fk 4,zc fk 5,zc fX 0,zc fX 1,zc fX 2,zc fX 3,zc fX 4,zc fX 5,zc iw 0,zc iw 1,zc iw 2,zc iw 3,zc iw 4,zc iw 5,zc gL 0,zc gL 1,zc gL 2,zc gL 3,zc gL 4,zc gL 5⟩ (fun hHeld=>?_);refine nC pz.aqs pz.bits2 (fun av bH=>?_);generalize zf.drew=w25 at fk fX gL iw HB hHeld ⊢;refine zU (i:=0) (N:=some 15) (zb 20 1) (a_ av.out (by kernel_rfl)) ?_;refine zU (i:=6) (N:=some 21) (zb 20 65) (a_ av.out (by kernel_rfl)) ?_;refine zU (i:=12) (N:=some 27) (zb 20 4161) (a_ av.out (by kernel_rfl)) ?_;refine zV (i:=1) (N:=some 16) (zb 20 4163) (bV av.out bH.out (by kernel_rfl)) hHeld ?_;refine zV (i:=2) (N:=some 17) (zb 20 4167) (bV av.out bH.out (by kernel_rfl)) hHeld ?_;refine zV (i:=3) (N:=some 18) (zb 20 4175) (bV av.out bH.out (by kernel_rfl)) hHeld ?_;refine zV (i:=7) (N:=some 22) (zb 20 4303) (bV av.out bH.out (by kernel_rfl)) hHeld ?_;refine zV (i:=8) (N:=some 23) (zb 20 4559) (bV av.out bH.out (by kernel_rfl)) hHeld ?_;refine zV (i:=9) (N:=some 24) (zb 20 5071) (bV av.out bH.out (by kernel_rfl)) hHeld ?_;refine zV (i:=13) (N:=some 28) (zb 20 13263) (bV av.out bH.out (by kernel_rfl)) hHeld ?_;refine zV (i:=14) (N:=some 29) (zb 20 29647) (bV av.out bH.out (by kernel_rfl)) hHeld ?_;refine zV (i:=15) (N:=some 30) (zb 20 62415) (bV av.out bH.out (by kernel_rfl)) hHeld ?_;refine bN (i:=4) (N:=some 19) (zb 20 62431) rfl rfl (bS av.out (by kernel_rfl)) (by decide) (fun K hK=>?_);refine zJ Tryz.func34 (by kernel_rfl) (ld.calls k af aa aj aN aO aP aq ak ay aS aT aU ct cu cw eJ eL eM GL _ A6.out) fun Lf hb=>?_;obtain⟨fk,fX,gL,iw⟩:=iF fk fX gL iw hb;replace HB:=zS HB hb
 (try clear hb)
 refine hK.out _ _ ⟨zc fk 0,zc fk 1,zc fk 2,zc fk 3,zc fk 4,zc fk 5,zc fX 0,zc fX 1,zc fX 2,zc fX 3,zc fX 4,zc fX 5,zc iw 0,zc iw 1,zc iw 2,zc iw 3,zc iw 4,zc iw 5,zc gL 0,zc gL 1,zc gL 2,zc gL 3,zc gL 4,zc gL 5⟩ (fun hHeld=>?_);clear hK K;refine zW (some 19) ?_;refine zU (i:=5) (N:=some 20) (zb 20 62463) (a_ av.out (by kernel_rfl)) ?_;refine bN (i:=10) (N:=some 25) (zb 20 63487) rfl rfl (bS av.out (by kernel_rfl)) (by decide) (fun K hK=>?_);refine zJ Tryz.func34 (by kernel_rfl) (ld.calls k aq ak ay aS aT aU bz bA bB bO bP bQ ct cu cw eJ eL eM GM _ A7.out) fun w27 hb=>?_;obtain⟨fk,fX,gL,iw⟩:=iF fk fX gL iw hb;replace HB:=zS HB hb
 (try clear hb)
 refine hK.out _ _ ⟨zc fk 0,zc fk 1,zc fk 2,zc fk 3,zc fk 4,zc fk 5,zc fX 0,zc fX 1,zc fX 2,zc fX 3,zc fX 4,zc fX 5,zc iw 0,zc iw 1,zc iw 2,zc iw 3,zc iw 4,zc iw 5,zc gL 0,zc gL 1,zc gL 2,zc gL 3,zc gL 4,zc gL 5⟩ (fun hHeld=>?_);clear hK K;refine zW (some 25) ?_;refine zU (i:=11) (N:=some 26) (zb 20 65535) (a_ av.out (by kernel_rfl)) ?_;refine bN (i:=16) (N:=some 31) (zb 20 131071) rfl rfl (bS av.out (by kernel_rfl)) (by decide) (fun K hK=>?_);refine zJ Tryz.func34 (by kernel_rfl) (ld.calls k bz bA bB bO bP bQ af aa aj aN aO aP ct cu cw eJ eL eM D_ _ A8.out) fun Py hb=>?_;obtain⟨fk,fX,gL,iw⟩:=iF fk fX gL iw hb;replace HB:=zS HB hb
 (try clear hb)
 refine hK.out _ _ ⟨zc fk 0,zc fk 1,zc fk 2,zc fk 3,zc fk 4,zc fk 5,zc fX 0,zc fX 1,zc fX 2,zc fX 3,zc fX 4,zc fX 5,zc iw 0,zc iw 1,zc iw 2,zc iw 3,zc iw 4,zc iw 5,zc gL 0,zc gL 1,zc gL 2,zc gL 3,zc gL 4,zc gL 5⟩ (fun hHeld=>?_);clear hK K;refine zW (some 31) ?_;refine zU (i:=17) (N:=some 32) (zb 20 262143) (a_ av.out (by kernel_rfl)) ?_;refine zU (i:=18) (N:=some 33) (zb 20 524287) (a_ av.out (by kernel_rfl)) ?_;refine zU (i:=19) (N:=some 10) (zb 20 1048575) (a_ av.out (by kernel_rfl)) ?_;refine mj (nE av.out (by kernel_rfl)) ?_;try go_wp2
 go_ret
 exact⟨by first|rfl|(simp[zw,zx] <;> rfl)|(simp only[← Be,← AG];first|rfl|(simp[zw,zx] <;> rfl))|(simp[*,zw,zx] <;> rfl),zT HB⟩
end Go.Proofs.aC.R
