import Derived.Test.YtcmepkhjggpmeaaGreatZuG33
set_option linter.all false
set_option maxRecDepth 100000
set_option maxHeartbeats 8000000
namespace Go.Proofs.aF.R
open Go.RowKit Go.Proofs.aF.Z Go.Proofs.aD.aY Go.Proofs.aD.bO Go.Proofs.aD.bT
attribute [local go_sem] ct cu cA cC ck cm cw cz
def gG.j0:Nat->Bool->Bool->ByteArray->ByteArray->Bool->ByteArray->ByteArray->Option (Bool × ByteArray × ByteArray)
 | 0,_,_,_,_,_,_,_=>none
 | k+1,Wh,MD,ME,YR,MF,MG,YS=>if Wh=true then ((wZ.f MD ME MF MG).bind fun aaV=>(some (aaV.1,aaV.2,(⟨#[1]⟩:ByteArray)))) else ((kS.f MF MG YS).bind fun aaW=>((oa.f MD ME aaW.1 aaW.2).bind fun aaX=>((kS.f MD ME YR).bind fun aaY=>((oa.f MF MG aaY.1 aaY.2).bind fun aaZ=>((wZ.f aaX.1 aaX.2 aaZ.1 aaZ.2).bind fun aa0=>((kS.f MD ME YR).bind fun aa1=>((kS.f MF MG YS).bind fun aa2=>((oa.f aa1.1 aa1.2 aa2.1 aa2.2).bind fun aa3=>((yh.f aa0.1 aa0.2 aa3.1 aa3.2).bind fun TA=>(some (TA.1,TA.2.1,TA.2.2)))))))))))
def gG.f (k:Nat) (af:Bool) (aa aj:ByteArray) (aq:Bool) (ak ay:ByteArray):Option (Bool × ByteArray × ByteArray):=if aj.toList=([1]:List UInt8) then (gG.j0 k (ay.toList==([1]:List UInt8)) af aa aj aq ak ay) else (gG.j0 k false af aa aj aq ak ay)
def gG.T3:Bool × List (List Nat × List Nat):=(true,[([],[]),([0],[0]),([],[]),([2],[2]),([1,3,3],[1,3]),([],[]),([5],[5]),([],[]),([7,4],[7]),([6,8,8],[6,8]),([4,9,9],[4,9]),([],[]),([11,10,10,0,1,2,3,4,5,6,7,8,9,10,11],[10,11])])
def gG.B3:List Nat:=[0,1,0,4,15,0,32,0,159,511,1023,0,4095]
theorem gG.B5:gR .any (opsOf Tryz.f42 3)=gG.T3:=by kernel_rfl
theorem gG.BO:nI gG.T3.2 gG.B3=true:=by kernel_rfl
def gG.T4:Bool × List (List Nat × List Nat):=(true,[([],[]),([],[]),([1],[1]),([],[]),([3,2],[3]),([2,4,4],[2,4]),([0,5,5],[0,5]),([6,6,0,1,2,3,4,5,6],[6])])
def gG.B4:List Nat:=[0,0,2,0,14,30,63,127]
theorem gG.zq:gR .any (opsOf Tryz.f42 4)=gG.T4:=by kernel_rfl
theorem gG.yL:nI gG.T4.2 gG.B4=true:=by kernel_rfl
theorem gG.calls (k:Nat) (af:Bool) (aa aj:ByteArray) (aq:Bool) (ak ay:ByteArray) (r1:Bool) (r2 r3:ByteArray) (w:World) (h:gG.f k af aa aj aq ak ay=some (r1,r2,r3)) :
  Calls Tryz.prog 42 #[.agg #[.bool af,.string aa,.string aj],.agg #[.bool aq,.string ak,.string ay]] w fun e w'=>e = .returned (.agg #[.bool r1,.string r2,.string r3])/\Below w.heap.size w w':=by
 have iL:=Tryz.underlying40;have zk:=Tryz.underlying38;have wK:=xA;have t_:=xB;have hf2:=xC;have hf3:=xD;have HB:=qa (Below.refl w.heap.size w);unfold gG.f at h;have H:=h;clear h;have nX:=qa H;clear H;go_enter Tryz.func42,Tryz.ntmps42;go_upto_region 1 with (first|((with_reducible refine aV (N:=2) rfl ?_);refine zY 2 #[.bool af,.string aa,.string aj] 40 ?_;intro cZ hg w4 ah hb;have aW:=qa (ah);have axk:=zG hg HB;have axl:=zG hg HB;replace HB:=zS HB hb;clear hb ah hg)|((with_reducible refine aV (N:=3) rfl ?_);refine zY 3 #[.bool aq,.string ak,.string ay] 40 ?_;intro dc hg w5 ah hb;have aX:=qa (ah);have axm:=zG hg HB;have axn:=zG hg HB;obtain⟨Qr,Qs⟩:=zQ hg aW;replace aW:=zB aW hb;replace HB:=zS HB hb;clear hb ah hg)|((with_reducible refine aV (N:=4) rfl ?_);refine zY 4 #[.bool false,.string ⟨#[]⟩,.string ⟨#[]⟩] 40 ?_;intro dQ hg w6 ah hb;have bB:=qa (ah);have axo:=zG hg HB;have axp:=zG hg HB;obtain⟨qO,Fp⟩:=zQ hg aW;obtain⟨sD,II⟩:=zQ hg aX;obtain⟨aW,aX⟩:=eX aW aX hb;replace HB:=zS HB hb;clear hb ah hg))
 (try simp only[Act.put,List.setIfInBounds_toArray,List.set_cons_zero,List.set_cons_succ])
 go_cut [13] (fun v13 wc=>∃ (kq:Nat) (N4:Bool),v13 = .bool N4/\aO (gG.j0 kq N4 af aa aj aq ak ay=some (r1,r2,r3))/\aO (kq<=k)/\aO (wc.heap[cZ]?=some (.cells #[.bool af,.string aa,.string aj] 40 (0,0)))/\aO (wc.heap[dc]?=some (.cells #[.bool aq,.string ak,.string ay] 40 (0,0)))/\aO (wc.heap[dQ]?=some (.cells #[.bool false,.string ⟨#[]⟩,.string ⟨#[]⟩] 40 (0,0)))/\aO (Below w.heap.size w wc))
 case first =>
  have H:=nX.out;clear nX;by_cases c7:aj.toList=([1]:List UInt8)
  ·rw[if_pos c7]at H
   have qE:=beq_iff_eq.mpr c7;have B8:=bne_eq_false_iff_eq.mpr c7;clear c7
   (first|rw[qE]|(simp only[dB,dD];rw[qE])|skip)
   have H':=qa H;clear H;have wo:=Qr.out;have wu:=Qs.out;have U4:=qO.out;have U5:=Fp.out;obtain⟨Sa,Sb,Sc,Sd,Se,Sf⟩:=z3 aW;have TB:=sD.out;have TC:=II.out;obtain⟨I3,I4,I5,I6,I7,I8⟩:=z3 aX;go_wp2
   go_meet
   case rel=>exact⟨_,((ay.toList==([1]:List UInt8))),zR,H',zL,zK aW,zK aX,zK bB,⟨zT HB⟩⟩
  ·rw[if_neg c7]at H
   have qE:=beq_eq_false_iff_ne.mpr c7;have B8:=bne_iff_ne.mpr c7
   (first|rw[qE]|(simp only[dB,dD];rw[qE])|skip)
   have H':=qa H;clear H;have Gv:=Qr.out;have Gw:=Qs.out;have DV:=qO.out;have DW:=Fp.out;obtain⟨FX,FY,FZ,F0,F2,F3⟩:=z3 aW;go_wp2
   go_meet
   case rel=>exact⟨_,(false),zR,H',zL,zK aW,zK aX,zK bB,⟨zT HB⟩⟩
 case rest =>
  clear nX;try clear c1;try clear p2;try clear c4;try clear c7;try clear qE;try clear B8;try clear c8;try clear c9;try clear c11;try clear c13;try clear c14;try clear Sa;try clear Sb;try clear Sc;try clear I3;try clear I4;try clear I5;try clear FX;try clear FY;try clear FZ;try clear Sd;try clear Se;try clear Sf;try clear I6;try clear I7;try clear I8;try clear F0;try clear F2;try clear F3
  obtain⟨kq,N4,rfl,HA,qJ,aW,aX,bB,HB⟩:=hcut;cases kq with
  | zero=>exact absurd HA.out (by simp[gG.j0])
  | succ Ih =>
   have H:=HA.out;clear HA;simp only[gG.j0]at H;by_cases c16:N4=true
   ·subst c16
    rw[if_pos rfl]at H
    obtain⟨⟨t127,t128⟩,Ll,H⟩:=zo H;try dsimp only at H
    simp only[Option.some.injEq,Prod.mk.injEq]at H;obtain⟨rfl,rfl,rfl⟩:=H;have JT:=Qr.out;have JU:=Qs.out;have aa4:=qO.out;have aa5:=Fp.out;obtain⟨F4,F5,F6,F7,F8,F9⟩:=z3 aW;have TD:=sD.out;have TE:=II.out;obtain⟨MH,MI,MJ,MK,ML,MM⟩:=z3 aX;go_wp2_with (first|((with_reducible refine cW (f:=69) rfl ?_);refine zO Tryz.func69 qk (wZ.calls af aa aq ak t127 t128 _ Ll.out) fun Ii hb=>?_;obtain⟨aW,aX,bB⟩:=bC aW aX bB hb;replace HB:=zS HB hb;(try clear hb);obtain⟨aiu,aiv,aiw,aix,aiy,aiz⟩:=z3 bB))
    refine bodyPost_ret (results_cell_row rfl _ _ dQ 40 #[.bool t127,.string t128,.string (⟨#[1]⟩:ByteArray)] (0,0) _ rfl (Kx bB) Tryz.underlying40 rfl qk) rfl ?_;exact⟨zH,zT HB⟩
   ·replace c16:=Bool.eq_false_iff.mpr c16
    subst c16;rw[if_neg zn]at H
    obtain⟨⟨t129,t130⟩,Ij,H⟩:=zo H;try dsimp only at H
    obtain⟨⟨t131,t132⟩,Pz,H⟩:=zo H;try dsimp only at H
    obtain⟨⟨t133,t134⟩,PA,H⟩:=zo H;try dsimp only at H
    obtain⟨⟨t135,t136⟩,PB,H⟩:=zo H;try dsimp only at H
    obtain⟨⟨t137,t138⟩,PC,H⟩:=zo H;try dsimp only at H
    obtain⟨⟨t140,t141⟩,Ik,H⟩:=zo H;try dsimp only at H
    obtain⟨⟨t142,t143⟩,CF,H⟩:=zo H;try dsimp only at H
    obtain⟨⟨t144,t145⟩,A32,H⟩:=zo H;try dsimp only at H
    obtain⟨⟨t146,t147,t148⟩,PD,H⟩:=zo H;try dsimp only at H
    simp only[Option.some.injEq,Prod.mk.injEq]at H;obtain⟨rfl,rfl,rfl⟩:=H;try go_wp2
    replace aW:=zD aW;replace aX:=zD aX;replace bB:=zD bB;replace HB:=zF HB;refine l9 (n:=13) (S:=fun w'=>w'.cell? ⟨cZ,0,none⟩=some (.bool af)/\w'.cell? ⟨cZ,1,none⟩=some (.string aa)/\w'.cell? ⟨cZ,2,none⟩=some (.string aj)/\w'.cell? ⟨dc,0,none⟩=some (.bool aq)/\w'.cell? ⟨dc,1,none⟩=some (.string ak)/\w'.cell? ⟨dc,2,none⟩=some (.string ay)) (ds:=[]) (zb 13 0) qk rfl rfl ⟨zc aW 0,zc aW 1,zc aW 2,zc aX 0,zc aX 1,zc aX 2⟩ (fun hHeld=>?_);refine nD gG.B5 gG.BO (fun aA bJ=>?_);generalize wc.drew=PE at aW aX bB HB hHeld ⊢;refine zU (i:=0) (N:=some 20) (zb 13 1) (bf aA.out qk) ?_;refine zU (i:=5) (N:=some 25) (zb 13 33) (bf aA.out qk) ?_;refine zV (i:=1) (N:=some 21) (zb 13 35) (cH aA.out bJ.out qk) hHeld ?_;refine zV (i:=2) (N:=some 22) (zb 13 39) (cH aA.out bJ.out qk) hHeld ?_;refine zV (i:=6) (N:=some 26) (zb 13 103) (cH aA.out bJ.out qk) hHeld ?_;refine zV (i:=7) (N:=some 27) (zb 13 231) (cH aA.out bJ.out qk) hHeld ?_;refine k5 (σ:=Nat) 1 (zb 13 4095) (fun s_=>[(23,.agg #[.bool t129,.string t130]),(24,.agg #[.bool t131,.string t132]),(28,.agg #[.bool t133,.string t134]),(29,.agg #[.bool t135,.string t136]),(30,.agg #[.bool t137,.string t138]),(5,.pointer (some ⟨s_,0,none⟩))]) (fun s_ w'=>(w'.cell? ⟨cZ,0,none⟩=some (.bool af)/\w'.cell? ⟨cZ,1,none⟩=some (.string aa)/\w'.cell? ⟨cZ,2,none⟩=some (.string aj)/\w'.cell? ⟨dc,0,none⟩=some (.bool aq)/\w'.cell? ⟨dc,1,none⟩=some (.string ak)/\w'.cell? ⟨dc,2,none⟩=some (.string ay))/\(w'.heap[cZ]?=some (.cells #[.bool af,.string aa,.string aj] 40 (0,0)))/\(w'.heap[dc]?=some (.cells #[.bool aq,.string ak,.string ay] 40 (0,0)))/\(w'.heap[dQ]?=some (.cells #[.bool false,.string ⟨#[]⟩,.string ⟨#[]⟩] 40 (0,0)))/\(w'.heap[s_]?=some (.cells #[.bool false,.string ⟨#[]⟩] 38 (0,0)))/\(w.heap.size<=s_)/\(w.heap.size<=s_)/\(cZ≠s_)/\(s_≠cZ)/\(dc≠s_)/\(s_≠dc)/\(dQ≠s_)/\(s_≠dQ)/\(Below w.heap.size w w')) ?_ ?_;rotate_left
    ·intro Xj
     refine k5 (σ:=Unit) 2 (zb 13 2047) (fun s_=>[(23,.agg #[.bool t129,.string t130]),(24,.agg #[.bool t131,.string t132]),(28,.agg #[.bool t133,.string t134]),(29,.agg #[.bool t135,.string t136]),(30,.agg #[.bool t137,.string t138])]) (fun s_ w'=>(w'.cell? ⟨cZ,0,none⟩=some (.bool af)/\w'.cell? ⟨cZ,1,none⟩=some (.string aa)/\w'.cell? ⟨cZ,2,none⟩=some (.string aj)/\w'.cell? ⟨dc,0,none⟩=some (.bool aq)/\w'.cell? ⟨dc,1,none⟩=some (.string ak)/\w'.cell? ⟨dc,2,none⟩=some (.string ay))/\(w'.heap[cZ]?=some (.cells #[.bool af,.string aa,.string aj] 40 (0,0)))/\(w'.heap[dc]?=some (.cells #[.bool aq,.string ak,.string ay] 40 (0,0)))/\(w'.heap[dQ]?=some (.cells #[.bool false,.string ⟨#[]⟩,.string ⟨#[]⟩] 40 (0,0)))/\(Below w.heap.size w w')) ?_ ?_;rotate_left
     ·intro afr
      refine k5 (σ:=Nat) 2 (zb 13 3071) (fun s_=>[(23,.agg #[.bool t129,.string t130]),(24,.agg #[.bool t131,.string t132]),(28,.agg #[.bool t133,.string t134]),(29,.agg #[.bool t135,.string t136]),(5,.pointer (some ⟨s_,0,none⟩))]) (fun s_ w'=>(w'.cell? ⟨cZ,0,none⟩=some (.bool af)/\w'.cell? ⟨cZ,1,none⟩=some (.string aa)/\w'.cell? ⟨cZ,2,none⟩=some (.string aj)/\w'.cell? ⟨dc,0,none⟩=some (.bool aq)/\w'.cell? ⟨dc,1,none⟩=some (.string ak)/\w'.cell? ⟨dc,2,none⟩=some (.string ay))/\(w'.heap[cZ]?=some (.cells #[.bool af,.string aa,.string aj] 40 (0,0)))/\(w'.heap[dc]?=some (.cells #[.bool aq,.string ak,.string ay] 40 (0,0)))/\(w'.heap[dQ]?=some (.cells #[.bool false,.string ⟨#[]⟩,.string ⟨#[]⟩] 40 (0,0)))/\(w'.heap[s_]?=some (.cells #[.bool false,.string ⟨#[]⟩] 38 (0,0)))/\(w.heap.size<=s_)/\(w.heap.size<=s_)/\(cZ≠s_)/\(s_≠cZ)/\(dc≠s_)/\(s_≠dc)/\(dQ≠s_)/\(s_≠dQ)/\(Below w.heap.size w w')) ?_ ?_;rotate_left
      ·intro Xp
       refine k5 (σ:=Unit) 3 (zb 13 1023) (fun s_=>[(23,.agg #[.bool t129,.string t130]),(24,.agg #[.bool t131,.string t132]),(28,.agg #[.bool t133,.string t134]),(29,.agg #[.bool t135,.string t136])]) (fun s_ w'=>(w'.cell? ⟨cZ,0,none⟩=some (.bool af)/\w'.cell? ⟨cZ,1,none⟩=some (.string aa)/\w'.cell? ⟨cZ,2,none⟩=some (.string aj)/\w'.cell? ⟨dc,0,none⟩=some (.bool aq)/\w'.cell? ⟨dc,1,none⟩=some (.string ak)/\w'.cell? ⟨dc,2,none⟩=some (.string ay))/\(w'.heap[cZ]?=some (.cells #[.bool af,.string aa,.string aj] 40 (0,0)))/\(w'.heap[dc]?=some (.cells #[.bool aq,.string ak,.string ay] 40 (0,0)))/\(w'.heap[dQ]?=some (.cells #[.bool false,.string ⟨#[]⟩,.string ⟨#[]⟩] 40 (0,0)))/\(Below w.heap.size w w')) ?_ ?_;rotate_left
       ·intro af1
        refine k5 (σ:=Nat) 3 (zb 13 2559) (fun s_=>[(23,.agg #[.bool t129,.string t130]),(24,.agg #[.bool t131,.string t132]),(28,.agg #[.bool t133,.string t134]),(5,.pointer (some ⟨s_,0,none⟩))]) (fun s_ w'=>(w'.cell? ⟨cZ,0,none⟩=some (.bool af)/\w'.cell? ⟨cZ,1,none⟩=some (.string aa)/\w'.cell? ⟨cZ,2,none⟩=some (.string aj)/\w'.cell? ⟨dc,0,none⟩=some (.bool aq)/\w'.cell? ⟨dc,1,none⟩=some (.string ak)/\w'.cell? ⟨dc,2,none⟩=some (.string ay))/\(w'.heap[cZ]?=some (.cells #[.bool af,.string aa,.string aj] 40 (0,0)))/\(w'.heap[dc]?=some (.cells #[.bool aq,.string ak,.string ay] 40 (0,0)))/\(w'.heap[dQ]?=some (.cells #[.bool false,.string ⟨#[]⟩,.string ⟨#[]⟩] 40 (0,0)))/\(w'.heap[s_]?=some (.cells #[.bool false,.string ⟨#[]⟩] 38 (0,0)))/\(w.heap.size<=s_)/\(w.heap.size<=s_)/\(cZ≠s_)/\(s_≠cZ)/\(dc≠s_)/\(s_≠dc)/\(dQ≠s_)/\(s_≠dQ)/\(Below w.heap.size w w')) ?_ ?_;rotate_left
        ·intro XC
         refine k5 (σ:=Unit) 4 (zb 13 511) (fun s_=>[(23,.agg #[.bool t129,.string t130]),(24,.agg #[.bool t131,.string t132]),(28,.agg #[.bool t133,.string t134])]) (fun s_ w'=>(w'.cell? ⟨cZ,0,none⟩=some (.bool af)/\w'.cell? ⟨cZ,1,none⟩=some (.string aa)/\w'.cell? ⟨cZ,2,none⟩=some (.string aj)/\w'.cell? ⟨dc,0,none⟩=some (.bool aq)/\w'.cell? ⟨dc,1,none⟩=some (.string ak)/\w'.cell? ⟨dc,2,none⟩=some (.string ay))/\(w'.heap[cZ]?=some (.cells #[.bool af,.string aa,.string aj] 40 (0,0)))/\(w'.heap[dc]?=some (.cells #[.bool aq,.string ak,.string ay] 40 (0,0)))/\(w'.heap[dQ]?=some (.cells #[.bool false,.string ⟨#[]⟩,.string ⟨#[]⟩] 40 (0,0)))/\(Below w.heap.size w w')) ?_ ?_;rotate_left
         ·intro aiA
          refine k5 (σ:=Nat) 4 (zb 13 2303) (fun s_=>[(23,.agg #[.bool t129,.string t130]),(24,.agg #[.bool t131,.string t132]),(5,.pointer (some ⟨s_,0,none⟩))]) (fun s_ w'=>(w'.cell? ⟨cZ,0,none⟩=some (.bool af)/\w'.cell? ⟨cZ,1,none⟩=some (.string aa)/\w'.cell? ⟨cZ,2,none⟩=some (.string aj)/\w'.cell? ⟨dc,0,none⟩=some (.bool aq)/\w'.cell? ⟨dc,1,none⟩=some (.string ak)/\w'.cell? ⟨dc,2,none⟩=some (.string ay))/\(w'.heap[cZ]?=some (.cells #[.bool af,.string aa,.string aj] 40 (0,0)))/\(w'.heap[dc]?=some (.cells #[.bool aq,.string ak,.string ay] 40 (0,0)))/\(w'.heap[dQ]?=some (.cells #[.bool false,.string ⟨#[]⟩,.string ⟨#[]⟩] 40 (0,0)))/\(w'.heap[s_]?=some (.cells #[.bool false,.string ⟨#[]⟩] 38 (0,0)))/\(w.heap.size<=s_)/\(w.heap.size<=s_)/\(cZ≠s_)/\(s_≠cZ)/\(dc≠s_)/\(s_≠dc)/\(dQ≠s_)/\(s_≠dQ)/\(Below w.heap.size w w')) ?_ ?_;rotate_left
          ·intro Yh
           refine k5 (σ:=Unit) 5 (zb 13 255) (fun s_=>[(23,.agg #[.bool t129,.string t130]),(24,.agg #[.bool t131,.string t132])]) (fun s_ w'=>(w'.cell? ⟨cZ,0,none⟩=some (.bool af)/\w'.cell? ⟨cZ,1,none⟩=some (.string aa)/\w'.cell? ⟨cZ,2,none⟩=some (.string aj)/\w'.cell? ⟨dc,0,none⟩=some (.bool aq)/\w'.cell? ⟨dc,1,none⟩=some (.string ak)/\w'.cell? ⟨dc,2,none⟩=some (.string ay))/\(w'.heap[cZ]?=some (.cells #[.bool af,.string aa,.string aj] 40 (0,0)))/\(w'.heap[dc]?=some (.cells #[.bool aq,.string ak,.string ay] 40 (0,0)))/\(w'.heap[dQ]?=some (.cells #[.bool false,.string ⟨#[]⟩,.string ⟨#[]⟩] 40 (0,0)))/\(Below w.heap.size w w')) ?_ ?_;rotate_left
           ·intro am9
            refine k5 (σ:=Nat) 5 (zb 13 2287) (fun s_=>[(23,.agg #[.bool t129,.string t130]),(5,.pointer (some ⟨s_,0,none⟩))]) (fun s_ w'=>(w'.cell? ⟨cZ,0,none⟩=some (.bool af)/\w'.cell? ⟨cZ,1,none⟩=some (.string aa)/\w'.cell? ⟨cZ,2,none⟩=some (.string aj)/\w'.cell? ⟨dc,0,none⟩=some (.bool aq)/\w'.cell? ⟨dc,1,none⟩=some (.string ak)/\w'.cell? ⟨dc,2,none⟩=some (.string ay))/\(w'.heap[cZ]?=some (.cells #[.bool af,.string aa,.string aj] 40 (0,0)))/\(w'.heap[dc]?=some (.cells #[.bool aq,.string ak,.string ay] 40 (0,0)))/\(w'.heap[dQ]?=some (.cells #[.bool false,.string ⟨#[]⟩,.string ⟨#[]⟩] 40 (0,0)))/\(w'.heap[s_]?=some (.cells #[.bool false,.string ⟨#[]⟩] 38 (0,0)))/\(w.heap.size<=s_)/\(w.heap.size<=s_)/\(cZ≠s_)/\(s_≠cZ)/\(dc≠s_)/\(s_≠dc)/\(dQ≠s_)/\(s_≠dQ)/\(Below w.heap.size w w')) ?_ ?_;rotate_left
            ·intro aad
             refine k5 (σ:=Unit) 6 (zb 13 239) (fun s_=>[(23,.agg #[.bool t129,.string t130])]) (fun s_ w'=>(w'.cell? ⟨cZ,0,none⟩=some (.bool af)/\w'.cell? ⟨cZ,1,none⟩=some (.string aa)/\w'.cell? ⟨cZ,2,none⟩=some (.string aj)/\w'.cell? ⟨dc,0,none⟩=some (.bool aq)/\w'.cell? ⟨dc,1,none⟩=some (.string ak)/\w'.cell? ⟨dc,2,none⟩=some (.string ay))/\(w'.heap[cZ]?=some (.cells #[.bool af,.string aa,.string aj] 40 (0,0)))/\(w'.heap[dc]?=some (.cells #[.bool aq,.string ak,.string ay] 40 (0,0)))/\(w'.heap[dQ]?=some (.cells #[.bool false,.string ⟨#[]⟩,.string ⟨#[]⟩] 40 (0,0)))/\(Below w.heap.size w w')) ?_ ?_;rotate_left
             ·intro hJ3
              refine k5 (σ:=Nat) 6 (zb 13 2279) (fun s_=>[(5,.pointer (some ⟨s_,0,none⟩))]) (fun s_ w'=>(w'.cell? ⟨cZ,0,none⟩=some (.bool af)/\w'.cell? ⟨cZ,1,none⟩=some (.string aa)/\w'.cell? ⟨cZ,2,none⟩=some (.string aj)/\w'.cell? ⟨dc,0,none⟩=some (.bool aq)/\w'.cell? ⟨dc,1,none⟩=some (.string ak)/\w'.cell? ⟨dc,2,none⟩=some (.string ay))/\(w'.heap[cZ]?=some (.cells #[.bool af,.string aa,.string aj] 40 (0,0)))/\(w'.heap[dc]?=some (.cells #[.bool aq,.string ak,.string ay] 40 (0,0)))/\(w'.heap[dQ]?=some (.cells #[.bool false,.string ⟨#[]⟩,.string ⟨#[]⟩] 40 (0,0)))/\(w'.heap[s_]?=some (.cells #[.bool false,.string ⟨#[]⟩] 38 (0,0)))/\(w.heap.size<=s_)/\(w.heap.size<=s_)/\(cZ≠s_)/\(s_≠cZ)/\(dc≠s_)/\(s_≠dc)/\(dQ≠s_)/\(s_≠dQ)/\(Below w.heap.size w w')) ?_ ?_;rotate_left
              ·intro aqy
               refine sR (i:=3) (j:=11) (Ni:=some 23) (Nj:=some 5) (zb 13 239) (zb 13 2279) rfl rfl rfl rfl (qw aA.out qk) qd qd (fun K hK=>?_) (fun K hK=>?_)
               ·skip
                refine zJ Tryz.func71 qk (kS.calls aq ak ay t129 t130 _ Ij.out) fun Aw hb=>?_;obtain⟨aW,aX,bB⟩:=bC aW aX bB hb;replace HB:=zS HB hb
                (try clear hb)
                refine hK.out _ _ ⟨zc aW 0,zc aW 1,zc aW 2,zc aX 0,zc aX 1,zc aX 2⟩ (fun hHeld=>?_);clear hK K;refine zW (some 23) ?_;exact zA (hJ3 () _ ⟨hHeld,(zK aW).out,(zK aX).out,(zK bB).out,(zT HB)⟩)
               ·skip
                refine oU ?hg (N:=5) ?hd (cs:=#[.bool false,.string ⟨#[]⟩]) (t:=38) ?hr ?_;(case hd=>rfl);(case hg=>rfl);(case hr=>first|(go_simp;done)|(go_simp;rfl))
                intro dZ hg Aw ah hb;have dx:=qa (ah);have mh:=zG hg HB;have mj:=zG hg HB;obtain⟨jl,kT⟩:=zQ hg aW;obtain⟨jm,kU⟩:=zQ hg aX;obtain⟨jX,iO⟩:=zQ hg bB;obtain⟨aW,aX,bB⟩:=bC aW aX bB hb;replace HB:=zS HB hb;clear hb ah hg;refine hK.out _ _ ⟨zc aW 0,zc aW 1,zc aW 2,zc aX 0,zc aX 1,zc aX 2⟩ (fun hHeld=>?_);clear hK K;refine zW (some 5) ?_;exact zA (aqy (dZ) _ ⟨hHeld,(zK aW).out,(zK aX).out,(zK bB).out,(zK dx).out,mh.out,mj.out,jl.out,kT.out,jm.out,kU.out,jX.out,iO.out,(zT HB)⟩)
              ·skip
               rintro dZ vp ⟨eF,bY,bZ,b_,cg,gf,gh,gm,iD,iE,iF,iu,iw,iy⟩;replace aW:=qa bY;replace aX:=qa bZ;replace bB:=qa b_;have dx:=qa cg;have mh:=qa gf;have mj:=qa gh;have jl:=qa gm;have kT:=qa iD;have jm:=qa iE;have kU:=qa iF;have jX:=qa iu;have iO:=qa iw;replace HB:=qa iy;clear bY bZ b_ cg gf gh gm iD iE iF iu iw iy;have hHeld:=eF;refine iW (a':=?_) ?_ ?_;rotate_left
               ·simp only[ij,Act.put,List.setIfInBounds_toArray,List.set_cons_zero,List.set_cons_succ]
                rfl
               refine bH (i:=3) (N:=some 23) (zb 13 2287) rfl rfl (bL aA.out qk) qd (fun K hK=>?_);refine zJ Tryz.func71 qk (kS.calls aq ak ay t129 t130 _ Ij.out) fun E5 hb=>?_;obtain⟨aW,aX,bB,dx⟩:=jx aW aX bB dx hb;replace HB:=zS HB hb
               (try clear hb)
               refine hK.out _ _ ⟨zc aW 0,zc aW 1,zc aW 2,zc aX 0,zc aX 1,zc aX 2⟩ (fun hHeld=>?_);clear hK K;refine zW (some 23) ?_;exact zA (aad (dZ) _ ⟨hHeld,(zK aW).out,(zK aX).out,(zK bB).out,(zK dx).out,mh.out,mj.out,jl.out,kT.out,jm.out,kU.out,jX.out,iO.out,(zT HB)⟩)
             ·skip
              rintro _ vp ⟨eF,bY,bZ,b_,cg⟩;replace aW:=qa bY;replace aX:=qa bZ;replace bB:=qa b_;replace HB:=qa cg;clear bY bZ b_ cg;have hHeld:=eF;refine iW (a':=?_) ?_ ?_;rotate_left
              ·simp only[ij,Act.put,List.setIfInBounds_toArray,List.set_cons_zero,List.set_cons_succ]
               rfl
              refine sR (i:=4) (j:=11) (Ni:=some 24) (Nj:=some 5) (zb 13 255) (zb 13 2287) rfl rfl rfl rfl (qw aA.out qk) qd qd (fun K hK=>?_) (fun K hK=>?_)
              ·skip
               refine zJ Tryz.func70 qk (oa.calls af aa t129 t130 t131 t132 _ Pz.out) fun E5 hb=>?_;obtain⟨aW,aX,bB⟩:=bC aW aX bB hb;replace HB:=zS HB hb
               (try clear hb)
               refine hK.out _ _ ⟨zc aW 0,zc aW 1,zc aW 2,zc aX 0,zc aX 1,zc aX 2⟩ (fun hHeld=>?_);clear hK K;refine zW (some 24) ?_;exact zA (am9 () _ ⟨hHeld,(zK aW).out,(zK aX).out,(zK bB).out,(zT HB)⟩)
              ·skip
               refine oU ?hg (N:=5) ?hd (cs:=#[.bool false,.string ⟨#[]⟩]) (t:=38) ?hr ?_;(case hd=>rfl);(case hg=>rfl);(case hr=>first|(go_simp;done)|(go_simp;rfl))
               intro dZ hg E5 ah hb;have dx:=qa (ah);have mh:=zG hg HB;have mj:=zG hg HB;obtain⟨jl,kT⟩:=zQ hg aW;obtain⟨jm,kU⟩:=zQ hg aX;obtain⟨jX,iO⟩:=zQ hg bB;obtain⟨aW,aX,bB⟩:=bC aW aX bB hb;replace HB:=zS HB hb;clear hb ah hg;refine hK.out _ _ ⟨zc aW 0,zc aW 1,zc aW 2,zc aX 0,zc aX 1,zc aX 2⟩ (fun hHeld=>?_);clear hK K;refine zW (some 5) ?_;exact zA (aad (dZ) _ ⟨hHeld,(zK aW).out,(zK aX).out,(zK bB).out,(zK dx).out,mh.out,mj.out,jl.out,kT.out,jm.out,kU.out,jX.out,iO.out,(zT HB)⟩)
            ·skip
             rintro dZ E5 ⟨eF,bY,bZ,b_,cg,gf,gh,gm,iD,iE,iF,iu,iw,iy⟩;replace aW:=qa bY;replace aX:=qa bZ;replace bB:=qa b_;have dx:=qa cg;have mh:=qa gf;have mj:=qa gh;have jl:=qa gm;have kT:=qa iD;have jm:=qa iE;have kU:=qa iF;have jX:=qa iu;have iO:=qa iw;replace HB:=qa iy;clear bY bZ b_ cg gf gh gm iD iE iF iu iw iy;have hHeld:=eF;refine iW (a':=?_) ?_ ?_;rotate_left
             ·simp only[ij,Act.put,List.setIfInBounds_toArray,List.set_cons_zero,List.set_cons_succ]
              rfl
             refine bH (i:=4) (N:=some 24) (zb 13 2303) rfl rfl (bL aA.out qk) qd (fun K hK=>?_);refine zJ Tryz.func70 qk (oa.calls af aa t129 t130 t131 t132 _ Pz.out) fun E6 hb=>?_;obtain⟨aW,aX,bB,dx⟩:=jx aW aX bB dx hb;replace HB:=zS HB hb
             (try clear hb)
             refine hK.out _ _ ⟨zc aW 0,zc aW 1,zc aW 2,zc aX 0,zc aX 1,zc aX 2⟩ (fun hHeld=>?_);clear hK K;refine zW (some 24) ?_;exact zA (Yh (dZ) _ ⟨hHeld,(zK aW).out,(zK aX).out,(zK bB).out,(zK dx).out,mh.out,mj.out,jl.out,kT.out,jm.out,kU.out,jX.out,iO.out,(zT HB)⟩)
           ·skip
            rintro _ E5 ⟨eF,bY,bZ,b_,cg⟩;replace aW:=qa bY;replace aX:=qa bZ;replace bB:=qa b_;replace HB:=qa cg;clear bY bZ b_ cg;have hHeld:=eF;refine iW (a':=?_) ?_ ?_;rotate_left
            ·simp only[ij,Act.put,List.setIfInBounds_toArray,List.set_cons_zero,List.set_cons_succ]
             rfl
            refine sR (i:=8) (j:=11) (Ni:=some 28) (Nj:=some 5) (zb 13 511) (zb 13 2303) rfl rfl rfl rfl (qw aA.out qk) qd qd (fun K hK=>?_) (fun K hK=>?_)
            ·skip
             refine zJ Tryz.func71 qk (kS.calls af aa aj t133 t134 _ PA.out) fun E6 hb=>?_;obtain⟨aW,aX,bB⟩:=bC aW aX bB hb;replace HB:=zS HB hb
             (try clear hb)
             refine hK.out _ _ ⟨zc aW 0,zc aW 1,zc aW 2,zc aX 0,zc aX 1,zc aX 2⟩ (fun hHeld=>?_);clear hK K;refine zW (some 28) ?_;exact zA (aiA () _ ⟨hHeld,(zK aW).out,(zK aX).out,(zK bB).out,(zT HB)⟩)
            ·skip
             refine oU ?hg (N:=5) ?hd (cs:=#[.bool false,.string ⟨#[]⟩]) (t:=38) ?hr ?_;(case hd=>rfl);(case hg=>rfl);(case hr=>first|(go_simp;done)|(go_simp;rfl))
             intro dZ hg E6 ah hb;have dx:=qa (ah);have mh:=zG hg HB;have mj:=zG hg HB;obtain⟨jl,kT⟩:=zQ hg aW;obtain⟨jm,kU⟩:=zQ hg aX;obtain⟨jX,iO⟩:=zQ hg bB;obtain⟨aW,aX,bB⟩:=bC aW aX bB hb;replace HB:=zS HB hb;clear hb ah hg;refine hK.out _ _ ⟨zc aW 0,zc aW 1,zc aW 2,zc aX 0,zc aX 1,zc aX 2⟩ (fun hHeld=>?_);clear hK K;refine zW (some 5) ?_;exact zA (Yh (dZ) _ ⟨hHeld,(zK aW).out,(zK aX).out,(zK bB).out,(zK dx).out,mh.out,mj.out,jl.out,kT.out,jm.out,kU.out,jX.out,iO.out,(zT HB)⟩)
          ·skip
           rintro dZ E6 ⟨eF,bY,bZ,b_,cg,gf,gh,gm,iD,iE,iF,iu,iw,iy⟩;replace aW:=qa bY;replace aX:=qa bZ;replace bB:=qa b_;have dx:=qa cg;have mh:=qa gf;have mj:=qa gh;have jl:=qa gm;have kT:=qa iD;have jm:=qa iE;have kU:=qa iF;have jX:=qa iu;have iO:=qa iw;replace HB:=qa iy;clear bY bZ b_ cg gf gh gm iD iE iF iu iw iy;have hHeld:=eF;refine iW (a':=?_) ?_ ?_;rotate_left
           ·simp only[ij,Act.put,List.setIfInBounds_toArray,List.set_cons_zero,List.set_cons_succ]
            rfl
           refine bH (i:=8) (N:=some 28) (zb 13 2559) rfl rfl (bL aA.out qk) qd (fun K hK=>?_);refine zJ Tryz.func71 qk (kS.calls af aa aj t133 t134 _ PA.out) fun Lm hb=>?_;obtain⟨aW,aX,bB,dx⟩:=jx aW aX bB dx hb;replace HB:=zS HB hb
           (try clear hb)
           refine hK.out _ _ ⟨zc aW 0,zc aW 1,zc aW 2,zc aX 0,zc aX 1,zc aX 2⟩ (fun hHeld=>?_);clear hK K;refine zW (some 28) ?_;exact zA (XC (dZ) _ ⟨hHeld,(zK aW).out,(zK aX).out,(zK bB).out,(zK dx).out,mh.out,mj.out,jl.out,kT.out,jm.out,kU.out,jX.out,iO.out,(zT HB)⟩)
         ·skip
          rintro _ E6 ⟨eF,bY,bZ,b_,cg⟩;replace aW:=qa bY;replace aX:=qa bZ;replace bB:=qa b_;replace HB:=qa cg;clear bY bZ b_ cg;have hHeld:=eF;refine iW (a':=?_) ?_ ?_;rotate_left
          ·simp only[ij,Act.put,List.setIfInBounds_toArray,List.set_cons_zero,List.set_cons_succ]
           rfl
          refine sR (i:=9) (j:=11) (Ni:=some 29) (Nj:=some 5) (zb 13 1023) (zb 13 2559) rfl rfl rfl rfl (qw aA.out qk) qd qd (fun K hK=>?_) (fun K hK=>?_)
          ·skip
           refine zJ Tryz.func70 qk (oa.calls aq ak t133 t134 t135 t136 _ PB.out) fun Lm hb=>?_;obtain⟨aW,aX,bB⟩:=bC aW aX bB hb;replace HB:=zS HB hb
           (try clear hb)
           refine hK.out _ _ ⟨zc aW 0,zc aW 1,zc aW 2,zc aX 0,zc aX 1,zc aX 2⟩ (fun hHeld=>?_);clear hK K;refine zW (some 29) ?_;exact zA (af1 () _ ⟨hHeld,(zK aW).out,(zK aX).out,(zK bB).out,(zT HB)⟩)
          ·skip
           refine oU ?hg (N:=5) ?hd (cs:=#[.bool false,.string ⟨#[]⟩]) (t:=38) ?hr ?_;(case hd=>rfl);(case hg=>rfl);(case hr=>first|(go_simp;done)|(go_simp;rfl))
           intro dZ hg Lm ah hb;have dx:=qa (ah);have mh:=zG hg HB;have mj:=zG hg HB;obtain⟨jl,kT⟩:=zQ hg aW;obtain⟨jm,kU⟩:=zQ hg aX;obtain⟨jX,iO⟩:=zQ hg bB;obtain⟨aW,aX,bB⟩:=bC aW aX bB hb;replace HB:=zS HB hb;clear hb ah hg;refine hK.out _ _ ⟨zc aW 0,zc aW 1,zc aW 2,zc aX 0,zc aX 1,zc aX 2⟩ (fun hHeld=>?_);clear hK K;refine zW (some 5) ?_;exact zA (XC (dZ) _ ⟨hHeld,(zK aW).out,(zK aX).out,(zK bB).out,(zK dx).out,mh.out,mj.out,jl.out,kT.out,jm.out,kU.out,jX.out,iO.out,(zT HB)⟩)
        ·skip
         rintro dZ Lm ⟨eF,bY,bZ,b_,cg,gf,gh,gm,iD,iE,iF,iu,iw,iy⟩;replace aW:=qa bY;replace aX:=qa bZ;replace bB:=qa b_;have dx:=qa cg;have mh:=qa gf;have mj:=qa gh;have jl:=qa gm;have kT:=qa iD;have jm:=qa iE;have kU:=qa iF;have jX:=qa iu;have iO:=qa iw;replace HB:=qa iy;clear bY bZ b_ cg gf gh gm iD iE iF iu iw iy;have hHeld:=eF;refine iW (a':=?_) ?_ ?_;rotate_left
         ·simp only[ij,Act.put,List.setIfInBounds_toArray,List.set_cons_zero,List.set_cons_succ]
          rfl
         refine bH (i:=9) (N:=some 29) (zb 13 3071) rfl rfl (bL aA.out qk) qd (fun K hK=>?_);refine zJ Tryz.func70 qk (oa.calls aq ak t133 t134 t135 t136 _ PB.out) fun Ln hb=>?_;obtain⟨aW,aX,bB,dx⟩:=jx aW aX bB dx hb;replace HB:=zS HB hb
         (try clear hb)
         refine hK.out _ _ ⟨zc aW 0,zc aW 1,zc aW 2,zc aX 0,zc aX 1,zc aX 2⟩ (fun hHeld=>?_);clear hK K;refine zW (some 29) ?_;exact zA (Xp (dZ) _ ⟨hHeld,(zK aW).out,(zK aX).out,(zK bB).out,(zK dx).out,mh.out,mj.out,jl.out,kT.out,jm.out,kU.out,jX.out,iO.out,(zT HB)⟩)
       ·skip
        rintro _ Lm ⟨eF,bY,bZ,b_,cg⟩;replace aW:=qa bY;replace aX:=qa bZ;replace bB:=qa b_;replace HB:=qa cg;clear bY bZ b_ cg;have hHeld:=eF;refine iW (a':=?_) ?_ ?_;rotate_left
        ·simp only[ij,Act.put,List.setIfInBounds_toArray,List.set_cons_zero,List.set_cons_succ]
         rfl
        refine sR (i:=10) (j:=11) (Ni:=some 30) (Nj:=some 5) (zb 13 2047) (zb 13 3071) rfl rfl rfl rfl (qw aA.out qk) qd qd (fun K hK=>?_) (fun K hK=>?_)
        ·skip
         refine zJ Tryz.func69 qk (wZ.calls t131 t132 t135 t136 t137 t138 _ PC.out) fun Ln hb=>?_;obtain⟨aW,aX,bB⟩:=bC aW aX bB hb;replace HB:=zS HB hb
         (try clear hb)
         refine hK.out _ _ ⟨zc aW 0,zc aW 1,zc aW 2,zc aX 0,zc aX 1,zc aX 2⟩ (fun hHeld=>?_);clear hK K;refine zW (some 30) ?_;exact zA (afr () _ ⟨hHeld,(zK aW).out,(zK aX).out,(zK bB).out,(zT HB)⟩)
        ·skip
         refine oU ?hg (N:=5) ?hd (cs:=#[.bool false,.string ⟨#[]⟩]) (t:=38) ?hr ?_;(case hd=>rfl);(case hg=>rfl);(case hr=>first|(go_simp;done)|(go_simp;rfl))
         intro dZ hg Ln ah hb;have dx:=qa (ah);have mh:=zG hg HB;have mj:=zG hg HB;obtain⟨jl,kT⟩:=zQ hg aW;obtain⟨jm,kU⟩:=zQ hg aX;obtain⟨jX,iO⟩:=zQ hg bB;obtain⟨aW,aX,bB⟩:=bC aW aX bB hb;replace HB:=zS HB hb;clear hb ah hg;refine hK.out _ _ ⟨zc aW 0,zc aW 1,zc aW 2,zc aX 0,zc aX 1,zc aX 2⟩ (fun hHeld=>?_);clear hK K;refine zW (some 5) ?_;exact zA (Xp (dZ) _ ⟨hHeld,(zK aW).out,(zK aX).out,(zK bB).out,(zK dx).out,mh.out,mj.out,jl.out,kT.out,jm.out,kU.out,jX.out,iO.out,(zT HB)⟩)
      ·skip
       rintro dZ Ln ⟨eF,bY,bZ,b_,cg,gf,gh,gm,iD,iE,iF,iu,iw,iy⟩;replace aW:=qa bY;replace aX:=qa bZ;replace bB:=qa b_;have dx:=qa cg;have mh:=qa gf;have mj:=qa gh;have jl:=qa gm;have kT:=qa iD;have jm:=qa iE;have kU:=qa iF;have jX:=qa iu;have iO:=qa iw;replace HB:=qa iy;clear bY bZ b_ cg gf gh gm iD iE iF iu iw iy;have hHeld:=eF;refine iW (a':=?_) ?_ ?_;rotate_left
       ·simp only[ij,Act.put,List.setIfInBounds_toArray,List.set_cons_zero,List.set_cons_succ]
        rfl
       refine bH (i:=10) (N:=some 30) (zb 13 4095) rfl rfl (bL aA.out qk) qd (fun K hK=>?_);refine zJ Tryz.func69 qk (wZ.calls t131 t132 t135 t136 t137 t138 _ PC.out) fun wR hb=>?_;obtain⟨aW,aX,bB,dx⟩:=jx aW aX bB dx hb;replace HB:=zS HB hb
       (try clear hb)
       refine hK.out _ _ ⟨zc aW 0,zc aW 1,zc aW 2,zc aX 0,zc aX 1,zc aX 2⟩ (fun hHeld=>?_);clear hK K;refine zW (some 30) ?_;exact zA (Xj (dZ) _ ⟨hHeld,(zK aW).out,(zK aX).out,(zK bB).out,(zK dx).out,mh.out,mj.out,jl.out,kT.out,jm.out,kU.out,jX.out,iO.out,(zT HB)⟩)
     ·skip
      rintro _ Ln ⟨eF,bY,bZ,b_,cg⟩;replace aW:=qa bY;replace aX:=qa bZ;replace bB:=qa b_;replace HB:=qa cg;clear bY bZ b_ cg;have hHeld:=eF;refine iW (a':=?_) ?_ ?_;rotate_left
      ·simp only[ij,Act.put,List.setIfInBounds_toArray,List.set_cons_zero,List.set_cons_succ]
       rfl
      refine bH (i:=11) (N:=some 5) (zb 13 4095) rfl rfl (bL aA.out qk) qd (fun K hK=>?_);refine oU ?hg (N:=5) ?hd (cs:=#[.bool false,.string ⟨#[]⟩]) (t:=38) ?hr ?_;(case hd=>rfl);(case hg=>rfl);(case hr=>first|(go_simp;done)|(go_simp;rfl))
      intro dZ hg wR ah hb;have dx:=qa (ah);have mh:=zG hg HB;have mj:=zG hg HB;obtain⟨jl,kT⟩:=zQ hg aW;obtain⟨jm,kU⟩:=zQ hg aX;obtain⟨jX,iO⟩:=zQ hg bB;obtain⟨aW,aX,bB⟩:=bC aW aX bB hb;replace HB:=zS HB hb;clear hb ah hg;refine hK.out _ _ ⟨zc aW 0,zc aW 1,zc aW 2,zc aX 0,zc aX 1,zc aX 2⟩ (fun hHeld=>?_);clear hK K;refine zW (some 5) ?_;exact zA (Xj (dZ) _ ⟨hHeld,(zK aW).out,(zK aX).out,(zK bB).out,(zK dx).out,mh.out,mj.out,jl.out,kT.out,jm.out,kU.out,jX.out,iO.out,(zT HB)⟩)
    rintro dZ wR ⟨eF,bY,bZ,b_,cg,gf,gh,gm,iD,iE,iF,iu,iw,iy⟩;replace aW:=qa bY;replace aX:=qa bZ;replace bB:=qa b_;have dx:=qa cg;have mh:=qa gf;have mj:=qa gh;have jl:=qa gm;have kT:=qa iD;have jm:=qa iE;have kU:=qa iF;have jX:=qa iu;have iO:=qa iw;replace HB:=qa iy;clear bY bZ b_ cg gf gh gm iD iE iF iu iw iy;have hHeld:=eF;refine iW (a':=?_) ?_ ?_;rotate_left
    ·simp only[ij,Act.put,List.setIfInBounds_toArray,List.set_cons_zero,List.set_cons_succ]
     rfl
    refine bH (i:=12) (N:=none) (zb 13 8191) rfl rfl (bL aA.out qk) qd (fun K hK=>?_);have aAQ:wR.cell? ⟨dZ,0,none⟩=some (.bool false):=zc dx 0;have axq:=bU dx.out 0;have asD:=jl.out;have asE:=jm.out;have asF:=jX.out;have asG:=kT.out;have asH:=kU.out;have asI:=iO.out;have aAR:wR.cell? ⟨dZ,1,none⟩=some (.string ⟨#[]⟩):=zc dx 1;have axr:=bU dx.out 1;have asJ:=jl.out;have asK:=jm.out;have asL:=jX.out;have asM:=kT.out;have asN:=kU.out;have asO:=iO.out;refine qy (w1:=?_) (by rfl) rfl ?_ ?_;rotate_left
    ·go_simp
     rfl
    refine hK.out _ _ ⟨((cell_far (p:=⟨dZ,_,none⟩) jl.out _).trans (((cell_far (p:=⟨dZ,_,none⟩) jl.out _).trans (hHeld.1)))),((cell_far (p:=⟨dZ,_,none⟩) jl.out _).trans (((cell_far (p:=⟨dZ,_,none⟩) jl.out _).trans (hHeld.2.1)))),((cell_far (p:=⟨dZ,_,none⟩) jl.out _).trans (((cell_far (p:=⟨dZ,_,none⟩) jl.out _).trans (hHeld.2.2.1)))),((cell_far (p:=⟨dZ,_,none⟩) jm.out _).trans (((cell_far (p:=⟨dZ,_,none⟩) jm.out _).trans (hHeld.2.2.2.1)))),((cell_far (p:=⟨dZ,_,none⟩) jm.out _).trans (((cell_far (p:=⟨dZ,_,none⟩) jm.out _).trans (hHeld.2.2.2.2.1)))),((cell_far (p:=⟨dZ,_,none⟩) jm.out _).trans (((cell_far (p:=⟨dZ,_,none⟩) jm.out _).trans (hHeld.2.2.2.2.2))))⟩ (fun hHeld=>?_);clear hK K;refine mg (nH aA.out qk) ?_;try go_wp2
    have E7:aO (((wR.setCell ⟨dZ,0,none⟩ (.bool t137)).setCell ⟨dZ,1,none⟩ (.string t138)).heap[cZ]?=some (.cells #[.bool af,.string aa,.string aj] 40 (0,0))):=zK aW;have kN:aO (((wR.setCell ⟨dZ,0,none⟩ (.bool t137)).setCell ⟨dZ,1,none⟩ (.string t138)).heap[dc]?=some (.cells #[.bool aq,.string ak,.string ay] 40 (0,0))):=zK aX;have lB:aO (((wR.setCell ⟨dZ,0,none⟩ (.bool t137)).setCell ⟨dZ,1,none⟩ (.string t138)).heap[dQ]?=some (.cells #[.bool false,.string ⟨#[]⟩,.string ⟨#[]⟩] 40 (0,0))):=zK bB;have xX:aO (((wR.setCell ⟨dZ,0,none⟩ (.bool t137)).setCell ⟨dZ,1,none⟩ (.string t138)).heap[dZ]?=some (.cells #[.bool t137,.string t138] 38 (0,0))):=⟨Kx dx⟩;have Ax:aO (Below w.heap.size w ((wR.setCell ⟨dZ,0,none⟩ (.bool t137)).setCell ⟨dZ,1,none⟩ (.string t138))):=⟨zT HB⟩
    (try clear aW)
    (try clear aX)
    (try clear bB)
    (try clear dx)
    (try clear HB)
    generalize ((wR.setCell ⟨dZ,0,none⟩ (.bool t137)).setCell ⟨dZ,1,none⟩ (.string t138))=Lo at E7 kN lB xX Ax ⊢;have aW:=E7;have aX:=kN;have bB:=lB;have dx:=xX;have HB:=Ax;clear E7 kN lB xX Ax;replace aW:=zD aW;replace aX:=zD aX;replace bB:=zD bB;replace dx:=zD dx;replace HB:=zF HB;refine l9 (n:=8) (S:=fun w'=>w'.cell? ⟨dZ,0,none⟩=some (.bool t137)/\w'.cell? ⟨dZ,1,none⟩=some (.string t138)/\w'.cell? ⟨cZ,0,none⟩=some (.bool af)/\w'.cell? ⟨cZ,1,none⟩=some (.string aa)/\w'.cell? ⟨cZ,2,none⟩=some (.string aj)/\w'.cell? ⟨dc,0,none⟩=some (.bool aq)/\w'.cell? ⟨dc,1,none⟩=some (.string ak)/\w'.cell? ⟨dc,2,none⟩=some (.string ay)) (ds:=[]) (zb 8 0) qk rfl rfl ⟨zc dx 0,zc dx 1,zc aW 0,zc aW 1,zc aW 2,zc aX 0,zc aX 1,zc aX 2⟩ (fun hHeld=>?_);refine nD gG.zq gG.yL (fun aA bJ=>?_);generalize Lo.drew=CG at aW aX bB dx HB hHeld ⊢;refine zV (i:=0) (N:=some 31) (zb 8 1) (cH aA.out bJ.out qk) hHeld ?_;refine zV (i:=1) (N:=some 32) (zb 8 3) (cH aA.out bJ.out qk) hHeld ?_;refine zV (i:=3) (N:=some 34) (zb 8 11) (cH aA.out bJ.out qk) hHeld ?_;refine bH (i:=2) (N:=some 33) (zb 8 15) rfl rfl (bL aA.out qk) qd (fun K hK=>?_);refine zJ Tryz.func71 qk (kS.calls af aa aj t140 t141 _ Ik.out) fun xY hb=>?_;obtain⟨aW,aX,bB,dx⟩:=jx aW aX bB dx hb;replace HB:=zS HB hb
    (try clear hb)
    refine hK.out _ _ ⟨zc dx 0,zc dx 1,zc aW 0,zc aW 1,zc aW 2,zc aX 0,zc aX 1,zc aX 2⟩ (fun hHeld=>?_);clear hK K;refine zW (some 33) ?_;refine bH (i:=4) (N:=some 35) (zb 8 31) rfl rfl (bL aA.out qk) qd (fun K hK=>?_);refine zJ Tryz.func71 qk (kS.calls aq ak ay t142 t143 _ CF.out) fun CJ hb=>?_;obtain⟨aW,aX,bB,dx⟩:=jx aW aX bB dx hb;replace HB:=zS HB hb
    (try clear hb)
    refine hK.out _ _ ⟨zc dx 0,zc dx 1,zc aW 0,zc aW 1,zc aW 2,zc aX 0,zc aX 1,zc aX 2⟩ (fun hHeld=>?_);clear hK K;refine zW (some 35) ?_;refine bH (i:=5) (N:=some 36) (zb 8 63) rfl rfl (bL aA.out qk) qd (fun K hK=>?_);refine zJ Tryz.func70 qk (oa.calls t140 t141 t142 t143 t144 t145 _ A32.out) fun CK hb=>?_;obtain⟨aW,aX,bB,dx⟩:=jx aW aX bB dx hb;replace HB:=zS HB hb
    (try clear hb)
    refine hK.out _ _ ⟨zc dx 0,zc dx 1,zc aW 0,zc aW 1,zc aW 2,zc aX 0,zc aX 1,zc aX 2⟩ (fun hHeld=>?_);clear hK K;refine zW (some 36) ?_;refine bH (i:=6) (N:=some 37) (zb 8 127) rfl rfl (bL aA.out qk) qd (fun K hK=>?_);refine zJ Tryz.func72 qk (yh.calls t137 t138 t144 t145 t146 t147 t148 _ PD.out) fun sk hb=>?_;obtain⟨aW,aX,bB,dx⟩:=jx aW aX bB dx hb;replace HB:=zS HB hb
    (try clear hb)
    refine hK.out _ _ ⟨zc dx 0,zc dx 1,zc aW 0,zc aW 1,zc aW 2,zc aX 0,zc aX 1,zc aX 2⟩ (fun hHeld=>?_);clear hK K;refine zW (some 37) ?_;refine bH (i:=7) (N:=none) (zb 8 255) rfl rfl (bL aA.out qk) qd (fun K hK=>?_);have ac0:sk.cell? ⟨dQ,0,none⟩=some (.bool false):=zc bB 0;have aa6:=bU bB.out 0;have YT:=qO.out;have aiB:=sD.out;have asP:=iO.out;have YU:=Fp.out;have aiC:=II.out;have asQ:=jX.out;have aqz:sk.cell? ⟨dQ,1,none⟩=some (.string ⟨#[]⟩):=zc bB 1;have am_:=bU bB.out 1;have aiD:=qO.out;have aiE:=sD.out;have asR:=iO.out;have aiF:=Fp.out;have aiG:=II.out;have asS:=jX.out;have aAS:sk.cell? ⟨dQ,2,none⟩=some (.string ⟨#[]⟩):=zc bB 2;have axt:=bU bB.out 2;have asT:=qO.out;have asU:=sD.out;have asV:=iO.out;have asW:=Fp.out;have asX:=II.out;have asY:=jX.out;refine qy (w1:=?_) (by rfl) rfl ?_ ?_;rotate_left
    ·go_simp
     rfl
    refine hK.out _ _ ⟨((cell_far (p:=⟨dQ,_,none⟩) iO.out _).trans (((cell_far (p:=⟨dQ,_,none⟩) iO.out _).trans (((cell_far (p:=⟨dQ,_,none⟩) iO.out _).trans (hHeld.1)))))),((cell_far (p:=⟨dQ,_,none⟩) iO.out _).trans (((cell_far (p:=⟨dQ,_,none⟩) iO.out _).trans (((cell_far (p:=⟨dQ,_,none⟩) iO.out _).trans (hHeld.2.1)))))),((cell_far (p:=⟨dQ,_,none⟩) qO.out _).trans (((cell_far (p:=⟨dQ,_,none⟩) qO.out _).trans (((cell_far (p:=⟨dQ,_,none⟩) qO.out _).trans (hHeld.2.2.1)))))),((cell_far (p:=⟨dQ,_,none⟩) qO.out _).trans (((cell_far (p:=⟨dQ,_,none⟩) qO.out _).trans (((cell_far (p:=⟨dQ,_,none⟩) qO.out _).trans (hHeld.2.2.2.1)))))),((cell_far (p:=⟨dQ,_,none⟩) qO.out _).trans (((cell_far (p:=⟨dQ,_,none⟩) qO.out _).trans (((cell_far (p:=⟨dQ,_,none⟩) qO.out _).trans (hHeld.2.2.2.2.1)))))),((cell_far (p:=⟨dQ,_,none⟩) sD.out _).trans (((cell_far (p:=⟨dQ,_,none⟩) sD.out _).trans (((cell_far (p:=⟨dQ,_,none⟩) sD.out _).trans (hHeld.2.2.2.2.2.1)))))),((cell_far (p:=⟨dQ,_,none⟩) sD.out _).trans (((cell_far (p:=⟨dQ,_,none⟩) sD.out _).trans (((cell_far (p:=⟨dQ,_,none⟩) sD.out _).trans (hHeld.2.2.2.2.2.2.1)))))),((cell_far (p:=⟨dQ,_,none⟩) sD.out _).trans (((cell_far (p:=⟨dQ,_,none⟩) sD.out _).trans (((cell_far (p:=⟨dQ,_,none⟩) sD.out _).trans (hHeld.2.2.2.2.2.2.2))))))⟩ (fun hHeld=>?_);clear hK K;refine mg (nH aA.out qk) ?_;try go_wp2
    refine bodyPost_ret (results_cell_row rfl _ _ dQ 40 #[.bool t146,.string t147,.string t148] (0,0) _ rfl (Kx bB) Tryz.underlying40 rfl qk) rfl ?_;exact⟨zH,zT HB⟩
end Go.Proofs.aF.R
