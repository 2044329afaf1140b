import Derived.Test.YtfcjnhkkfmgmpaaGreatZtG33
set_option linter.all false
set_option maxRecDepth 100000
set_option maxHeartbeats 8000000
namespace Go.Proofs.aA.R
open Go.RowKit Go.Proofs.aA.Z Go.Proofs.aB.aZ Go.Proofs.aB.bT Go.Proofs.aB.bX
attribute [local go_sem] cm ct cz cA cj ck cu cw
def iQ.j0:Nat->Bool->Bool->ByteArray->ByteArray->Bool->ByteArray->ByteArray->Option (Bool × ByteArray × ByteArray)
 | 0,_,_,_,_,_,_,_=>none
 | k+1,Zu,OV,OW,abz,OX,OY,abA=>if Zu=true then ((yF.f OV OW OX OY).bind fun aei=>(some (aei.1,aei.2,(⟨#[1]⟩:ByteArray)))) else ((lZ.f OX OY abA).bind fun aej=>((oT.f OV OW aej.1 aej.2).bind fun aek=>((lZ.f OV OW abz).bind fun ael=>((oT.f OX OY ael.1 ael.2).bind fun aem=>((yF.f aek.1 aek.2 aem.1 aem.2).bind fun aen=>((lZ.f OV OW abz).bind fun aeo=>((lZ.f OX OY abA).bind fun aep=>((oT.f aeo.1 aeo.2 aep.1 aep.2).bind fun aer=>((Ah.f aen.1 aen.2 aer.1 aer.2).bind fun Wx=>(some (Wx.1,Wx.2.1,Wx.2.2)))))))))))
def iQ.f (k:Nat) (af:Bool) (aa aj:ByteArray) (aq:Bool) (ak au:ByteArray):Option (Bool × ByteArray × ByteArray):=if aj.toList=([1]:List UInt8) then (iQ.j0 k (au.toList==([1]:List UInt8)) af aa aj aq ak au) else (iQ.j0 k false af aa aj aq ak au)
def iQ.T3:Bool × List (List Nat × List Nat):=(true,[([],[]),([0],[0]),([],[]),([2],[2]),([1,3,3],[1,3]),([],[]),([5],[5]),([],[]),([7,4],[7]),([6,8,8],[6,8]),([4,9,9],[4,9]),([],[]),([11,10,10,0,1,2,3,4,5,6,7,8,9,10,11],[10,11])])
def iQ.B3:List Nat:=[0,1,0,4,15,0,32,0,159,511,1023,0,4095]
theorem iQ.Df:ia .any (opsOf Tryz.f74 3)=iQ.T3:=by kernel_rfl
theorem iQ.CZ:nh iQ.T3.2 iQ.B3=true:=by kernel_rfl
def iQ.T4:Bool × List (List Nat × List Nat):=(true,[([],[]),([],[]),([1],[1]),([],[]),([3,2],[3]),([2,4,4],[2,4]),([0,5,5],[0,5]),([6,6,0,1,2,3,4,5,6],[6])])
def iQ.B4:List Nat:=[0,0,2,0,14,30,63,127]
theorem iQ.Bf:ia .any (opsOf Tryz.f74 4)=iQ.T4:=by kernel_rfl
theorem iQ.AO:nh iQ.T4.2 iQ.B4=true:=by kernel_rfl
theorem iQ.calls (k:Nat) (af:Bool) (aa aj:ByteArray) (aq:Bool) (ak au:ByteArray) (r1:Bool) (r2 r3:ByteArray) (w:World) (h:iQ.f k af aa aj aq ak au=some (r1,r2,r3)) :
  Calls Tryz.prog 74 #[.agg #[.bool af,.string aa,.string aj],.agg #[.bool aq,.string ak,.string au]] w fun e w'=>e = .returned (.agg #[.bool r1,.string r2,.string r3])/\Below w.heap.size w w':=by
 have ji:=Tryz.underlying40;have Be:=Tryz.underlying38;have xW:=ze;have BJ:=zf;have hf2:=zg;have hf3:=zh;have HB:=qa (Below.refl w.heap.size w);unfold iQ.f at h;have H:=h;clear h;have oM:=qa H;clear H;go_enter Tryz.func74,Tryz.ntmps74;go_upto_region 1 with (first|((with_reducible refine aR (N:=2) rfl ?_);refine zY 2 #[.bool af,.string aa,.string aj] 40 ?_;intro dn hg w4 ah hb;have aY:=qa (ah);have ay5:=zG hg HB;have ay6:=zG hg HB;replace HB:=zS HB hb;clear hb ah hg)|((with_reducible refine aR (N:=3) rfl ?_);refine zY 3 #[.bool aq,.string ak,.string au] 40 ?_;intro dw hg w5 ah hb;have a_:=qa (ah);have ay7:=zG hg HB;have ay8:=zG hg HB;obtain⟨Tm,Tn⟩:=zQ hg aY;replace aY:=zB aY hb;replace HB:=zS HB hb;clear hb ah hg)|((with_reducible refine aR (N:=4) rfl ?_);refine zY 4 #[.bool false,.string ⟨#[]⟩,.string ⟨#[]⟩] 40 ?_;intro ej hg w6 ah hb;have bQ:=qa (ah);have ay9:=zG hg HB;have ay_:=zG hg HB;obtain⟨rP,Hy⟩:=zQ hg aY;obtain⟨tQ,KD⟩:=zQ hg a_;obtain⟨aY,a_⟩:=eo aY a_ hb;replace HB:=zS HB hb;clear hb ah hg))
 (try simp only[Act.put,List.setIfInBounds_toArray,List.set_cons_zero,List.set_cons_succ])
 go_cut [13] (fun v13 wc=>∃ (kq:Nat) (QH:Bool),v13 = .bool QH/\aO (iQ.j0 kq QH af aa aj aq ak au=some (r1,r2,r3))/\aO (kq<=k)/\aO (wc.heap[dn]?=some (.cells #[.bool af,.string aa,.string aj] 40 (0,0)))/\aO (wc.heap[dw]?=some (.cells #[.bool aq,.string ak,.string au] 40 (0,0)))/\aO (wc.heap[ej]?=some (.cells #[.bool false,.string ⟨#[]⟩,.string ⟨#[]⟩] 40 (0,0)))/\aO (Below w.heap.size w wc))
 case first =>
  have H:=oM.out;clear oM;by_cases c7:aj.toList=([1]:List UInt8)
  ·rw[if_pos c7]at H
   have oH:=beq_iff_eq.mpr c7;have Dg:=bne_eq_false_iff_eq.mpr c7;clear c7
   (first|rw[oH]|(simp only[dL,dM];rw[oH])|skip)
   have H':=qa H;clear H;have zw:=Tm.out;have zx:=Tn.out;have XY:=rP.out;have XZ:=Hy.out;obtain⟨Vj,Vk,Vl,Vm,Vn,Vo⟩:=z3 aY;have I4:=tQ.out;have I5:=KD.out;obtain⟨Ct,Cu,Cv,Cw,Cx,Cy⟩:=z3 a_;go_wp2
   go_meet
   case rel=>exact⟨_,((au.toList==([1]:List UInt8))),zR,H',zL,zK aY,zK a_,zK bQ,⟨zT HB⟩⟩
  ·rw[if_neg c7]at H
   have oH:=beq_eq_false_iff_ne.mpr c7;have Dg:=bne_iff_ne.mpr c7
   (first|rw[oH]|(simp only[dL,dM];rw[oH])|skip)
   have H':=qa H;clear H;have C3:=Tm.out;have C4:=Tn.out;have QI:=rP.out;have QJ:=Hy.out;obtain⟨Ax,Ay,Az,AA,AB,AD⟩:=z3 aY;go_wp2
   go_meet
   case rel=>exact⟨_,(false),zR,H',zL,zK aY,zK a_,zK bQ,⟨zT HB⟩⟩
 case rest =>
  clear oM;try clear c1;try clear p2;try clear c7;try clear oH;try clear Dg;try clear c8;try clear c9;try clear c11;try clear c13;try clear c14;try clear Vj;try clear Vk;try clear Vl;try clear Ct;try clear Cu;try clear Cv;try clear Ax;try clear Ay;try clear Az;try clear Vm;try clear Vn;try clear Vo;try clear Cw;try clear Cx;try clear Cy;try clear AA;try clear AB;try clear AD
  obtain⟨kq,QH,rfl,HA,BK,aY,a_,bQ,HB⟩:=hcut;cases kq with
  | zero=>exact absurd HA.out (by simp[iQ.j0])
  | succ J' =>
   have H:=HA.out;clear HA;simp only[iQ.j0]at H;by_cases c16:QH=true
   ·subst c16
    rw[if_pos rfl]at H
    obtain⟨⟨t128,t129⟩,NR,H⟩:=zo H;try dsimp only at H
    simp only[Option.some.injEq,Prod.mk.injEq]at H;obtain⟨rfl,rfl,rfl⟩:=H;have LZ:=Tm.out;have L4:=Tn.out;have aes:=rP.out;have aet:=Hy.out;obtain⟨ED,EE,EF,EG,EH,EI⟩:=z3 aY;have L5:=tQ.out;have L6:=KD.out;obtain⟨KT,KU,KV,KW,KX,KY⟩:=z3 a_;go_wp2_with (first|((with_reducible refine cU (f:=89) rfl ?_);refine zO Tryz.func89 qk (yF.calls af aa aq ak t128 t129 _ NR.out) fun BQ hb=>?_;obtain⟨aY,a_,bQ⟩:=bB aY a_ bQ hb;replace HB:=zS HB hb;(try clear hb);obtain⟨alM,alN,alO,alP,alQ,alR⟩:=z3 bQ))
    refine bodyPost_ret (results_cell_row rfl _ _ ej 40 #[.bool t128,.string t129,.string (⟨#[1]⟩:ByteArray)] (0,0) _ rfl (Kx bQ) Tryz.underlying40 rfl qk) rfl ?_;exact⟨zH,zT HB⟩
   ·replace c16:=Bool.eq_false_iff.mpr c16
    subst c16;rw[if_neg zn]at H
    obtain⟨⟨t130,t131⟩,Ka,H⟩:=zo H;try dsimp only at H
    obtain⟨⟨t132,t133⟩,Su,H⟩:=zo H;try dsimp only at H
    obtain⟨⟨t134,t135⟩,Sv,H⟩:=zo H;try dsimp only at H
    obtain⟨⟨t136,t137⟩,Sw,H⟩:=zo H;try dsimp only at H
    obtain⟨⟨t138,t139⟩,Sy,H⟩:=zo H;try dsimp only at H
    obtain⟨⟨t141,t142⟩,Kb,H⟩:=zo H;try dsimp only at H
    obtain⟨⟨t143,t144⟩,D9,H⟩:=zo H;try dsimp only at H
    obtain⟨⟨t145,t146⟩,A32,H⟩:=zo H;try dsimp only at H
    obtain⟨⟨t147,t148,t149⟩,Sz,H⟩:=zo H;try dsimp only at H
    simp only[Option.some.injEq,Prod.mk.injEq]at H;obtain⟨rfl,rfl,rfl⟩:=H;try go_wp2
    replace aY:=zD aY;replace a_:=zD a_;replace bQ:=zD bQ;replace HB:=zF HB;refine mg (n:=13) (S:=fun w'=>w'.cell? ⟨dn,0,none⟩=some (.bool af)/\w'.cell? ⟨dn,1,none⟩=some (.string aa)/\w'.cell? ⟨dn,2,none⟩=some (.string aj)/\w'.cell? ⟨dw,0,none⟩=some (.bool aq)/\w'.cell? ⟨dw,1,none⟩=some (.string ak)/\w'.cell? ⟨dw,2,none⟩=some (.string au)) (ds:=[]) (zb 13 0) qk rfl rfl ⟨zc aY 0,zc aY 1,zc aY 2,zc a_ 0,zc a_ 1,zc a_ 2⟩ (fun hHeld=>?_);refine mZ iQ.Df iQ.CZ (fun av bN=>?_);generalize wc.drew=SA at aY a_ bQ HB hHeld ⊢;refine zU (i:=0) (N:=some 20) (zb 13 1) (bf av.out qk) ?_;refine zU (i:=5) (N:=some 25) (zb 13 33) (bf av.out qk) ?_;refine zV (i:=1) (N:=some 21) (zb 13 35) (cg av.out bN.out qk) hHeld ?_;refine zV (i:=2) (N:=some 22) (zb 13 39) (cg av.out bN.out qk) hHeld ?_;refine zV (i:=6) (N:=some 26) (zb 13 103) (cg av.out bN.out qk) hHeld ?_;refine zV (i:=7) (N:=some 27) (zb 13 231) (cg av.out bN.out qk) hHeld ?_;refine lO (σ:=Nat) 1 (zb 13 4095) (fun s_=>[(23,.agg #[.bool t130,.string t131]),(24,.agg #[.bool t132,.string t133]),(28,.agg #[.bool t134,.string t135]),(29,.agg #[.bool t136,.string t137]),(30,.agg #[.bool t138,.string t139]),(5,.pointer (some ⟨s_,0,none⟩))]) (fun s_ w'=>(w'.cell? ⟨dn,0,none⟩=some (.bool af)/\w'.cell? ⟨dn,1,none⟩=some (.string aa)/\w'.cell? ⟨dn,2,none⟩=some (.string aj)/\w'.cell? ⟨dw,0,none⟩=some (.bool aq)/\w'.cell? ⟨dw,1,none⟩=some (.string ak)/\w'.cell? ⟨dw,2,none⟩=some (.string au))/\(w'.heap[dn]?=some (.cells #[.bool af,.string aa,.string aj] 40 (0,0)))/\(w'.heap[dw]?=some (.cells #[.bool aq,.string ak,.string au] 40 (0,0)))/\(w'.heap[ej]?=some (.cells #[.bool false,.string ⟨#[]⟩,.string ⟨#[]⟩] 40 (0,0)))/\(w'.heap[s_]?=some (.cells #[.bool false,.string ⟨#[]⟩] 38 (0,0)))/\(w.heap.size<=s_)/\(w.heap.size<=s_)/\(dn≠s_)/\(s_≠dn)/\(dw≠s_)/\(s_≠dw)/\(ej≠s_)/\(s_≠ej)/\(Below w.heap.size w w')) ?_ ?_;rotate_left
    ·intro aac
     refine lO (σ:=Unit) 2 (zb 13 2047) (fun s_=>[(23,.agg #[.bool t130,.string t131]),(24,.agg #[.bool t132,.string t133]),(28,.agg #[.bool t134,.string t135]),(29,.agg #[.bool t136,.string t137]),(30,.agg #[.bool t138,.string t139])]) (fun s_ w'=>(w'.cell? ⟨dn,0,none⟩=some (.bool af)/\w'.cell? ⟨dn,1,none⟩=some (.string aa)/\w'.cell? ⟨dn,2,none⟩=some (.string aj)/\w'.cell? ⟨dw,0,none⟩=some (.bool aq)/\w'.cell? ⟨dw,1,none⟩=some (.string ak)/\w'.cell? ⟨dw,2,none⟩=some (.string au))/\(w'.heap[dn]?=some (.cells #[.bool af,.string aa,.string aj] 40 (0,0)))/\(w'.heap[dw]?=some (.cells #[.bool aq,.string ak,.string au] 40 (0,0)))/\(w'.heap[ej]?=some (.cells #[.bool false,.string ⟨#[]⟩,.string ⟨#[]⟩] 40 (0,0)))/\(Below w.heap.size w w')) ?_ ?_;rotate_left
     ·intro ai8
      refine lO (σ:=Nat) 2 (zb 13 3071) (fun s_=>[(23,.agg #[.bool t130,.string t131]),(24,.agg #[.bool t132,.string t133]),(28,.agg #[.bool t134,.string t135]),(29,.agg #[.bool t136,.string t137]),(5,.pointer (some ⟨s_,0,none⟩))]) (fun s_ w'=>(w'.cell? ⟨dn,0,none⟩=some (.bool af)/\w'.cell? ⟨dn,1,none⟩=some (.string aa)/\w'.cell? ⟨dn,2,none⟩=some (.string aj)/\w'.cell? ⟨dw,0,none⟩=some (.bool aq)/\w'.cell? ⟨dw,1,none⟩=some (.string ak)/\w'.cell? ⟨dw,2,none⟩=some (.string au))/\(w'.heap[dn]?=some (.cells #[.bool af,.string aa,.string aj] 40 (0,0)))/\(w'.heap[dw]?=some (.cells #[.bool aq,.string ak,.string au] 40 (0,0)))/\(w'.heap[ej]?=some (.cells #[.bool false,.string ⟨#[]⟩,.string ⟨#[]⟩] 40 (0,0)))/\(w'.heap[s_]?=some (.cells #[.bool false,.string ⟨#[]⟩] 38 (0,0)))/\(w.heap.size<=s_)/\(w.heap.size<=s_)/\(dn≠s_)/\(s_≠dn)/\(dw≠s_)/\(s_≠dw)/\(ej≠s_)/\(s_≠ej)/\(Below w.heap.size w w')) ?_ ?_;rotate_left
      ·intro aai
       refine lO (σ:=Unit) 3 (zb 13 1023) (fun s_=>[(23,.agg #[.bool t130,.string t131]),(24,.agg #[.bool t132,.string t133]),(28,.agg #[.bool t134,.string t135]),(29,.agg #[.bool t136,.string t137])]) (fun s_ w'=>(w'.cell? ⟨dn,0,none⟩=some (.bool af)/\w'.cell? ⟨dn,1,none⟩=some (.string aa)/\w'.cell? ⟨dn,2,none⟩=some (.string aj)/\w'.cell? ⟨dw,0,none⟩=some (.bool aq)/\w'.cell? ⟨dw,1,none⟩=some (.string ak)/\w'.cell? ⟨dw,2,none⟩=some (.string au))/\(w'.heap[dn]?=some (.cells #[.bool af,.string aa,.string aj] 40 (0,0)))/\(w'.heap[dw]?=some (.cells #[.bool aq,.string ak,.string au] 40 (0,0)))/\(w'.heap[ej]?=some (.cells #[.bool false,.string ⟨#[]⟩,.string ⟨#[]⟩] 40 (0,0)))/\(Below w.heap.size w w')) ?_ ?_;rotate_left
       ·intro ajH
        refine lO (σ:=Nat) 3 (zb 13 2559) (fun s_=>[(23,.agg #[.bool t130,.string t131]),(24,.agg #[.bool t132,.string t133]),(28,.agg #[.bool t134,.string t135]),(5,.pointer (some ⟨s_,0,none⟩))]) (fun s_ w'=>(w'.cell? ⟨dn,0,none⟩=some (.bool af)/\w'.cell? ⟨dn,1,none⟩=some (.string aa)/\w'.cell? ⟨dn,2,none⟩=some (.string aj)/\w'.cell? ⟨dw,0,none⟩=some (.bool aq)/\w'.cell? ⟨dw,1,none⟩=some (.string ak)/\w'.cell? ⟨dw,2,none⟩=some (.string au))/\(w'.heap[dn]?=some (.cells #[.bool af,.string aa,.string aj] 40 (0,0)))/\(w'.heap[dw]?=some (.cells #[.bool aq,.string ak,.string au] 40 (0,0)))/\(w'.heap[ej]?=some (.cells #[.bool false,.string ⟨#[]⟩,.string ⟨#[]⟩] 40 (0,0)))/\(w'.heap[s_]?=some (.cells #[.bool false,.string ⟨#[]⟩] 38 (0,0)))/\(w.heap.size<=s_)/\(w.heap.size<=s_)/\(dn≠s_)/\(s_≠dn)/\(dw≠s_)/\(s_≠dw)/\(ej≠s_)/\(s_≠ej)/\(Below w.heap.size w w')) ?_ ?_;rotate_left
        ·intro aau
         refine lO (σ:=Unit) 4 (zb 13 511) (fun s_=>[(23,.agg #[.bool t130,.string t131]),(24,.agg #[.bool t132,.string t133]),(28,.agg #[.bool t134,.string t135])]) (fun s_ w'=>(w'.cell? ⟨dn,0,none⟩=some (.bool af)/\w'.cell? ⟨dn,1,none⟩=some (.string aa)/\w'.cell? ⟨dn,2,none⟩=some (.string aj)/\w'.cell? ⟨dw,0,none⟩=some (.bool aq)/\w'.cell? ⟨dw,1,none⟩=some (.string ak)/\w'.cell? ⟨dw,2,none⟩=some (.string au))/\(w'.heap[dn]?=some (.cells #[.bool af,.string aa,.string aj] 40 (0,0)))/\(w'.heap[dw]?=some (.cells #[.bool aq,.string ak,.string au] 40 (0,0)))/\(w'.heap[ej]?=some (.cells #[.bool false,.string ⟨#[]⟩,.string ⟨#[]⟩] 40 (0,0)))/\(Below w.heap.size w w')) ?_ ?_;rotate_left
         ·intro alS
          refine lO (σ:=Nat) 4 (zb 13 2303) (fun s_=>[(23,.agg #[.bool t130,.string t131]),(24,.agg #[.bool t132,.string t133]),(5,.pointer (some ⟨s_,0,none⟩))]) (fun s_ w'=>(w'.cell? ⟨dn,0,none⟩=some (.bool af)/\w'.cell? ⟨dn,1,none⟩=some (.string aa)/\w'.cell? ⟨dn,2,none⟩=some (.string aj)/\w'.cell? ⟨dw,0,none⟩=some (.bool aq)/\w'.cell? ⟨dw,1,none⟩=some (.string ak)/\w'.cell? ⟨dw,2,none⟩=some (.string au))/\(w'.heap[dn]?=some (.cells #[.bool af,.string aa,.string aj] 40 (0,0)))/\(w'.heap[dw]?=some (.cells #[.bool aq,.string ak,.string au] 40 (0,0)))/\(w'.heap[ej]?=some (.cells #[.bool false,.string ⟨#[]⟩,.string ⟨#[]⟩] 40 (0,0)))/\(w'.heap[s_]?=some (.cells #[.bool false,.string ⟨#[]⟩] 38 (0,0)))/\(w.heap.size<=s_)/\(w.heap.size<=s_)/\(dn≠s_)/\(s_≠dn)/\(dw≠s_)/\(s_≠dw)/\(ej≠s_)/\(s_≠ej)/\(Below w.heap.size w w')) ?_ ?_;rotate_left
          ·intro aa8
           refine lO (σ:=Unit) 5 (zb 13 255) (fun s_=>[(23,.agg #[.bool t130,.string t131]),(24,.agg #[.bool t132,.string t133])]) (fun s_ w'=>(w'.cell? ⟨dn,0,none⟩=some (.bool af)/\w'.cell? ⟨dn,1,none⟩=some (.string aa)/\w'.cell? ⟨dn,2,none⟩=some (.string aj)/\w'.cell? ⟨dw,0,none⟩=some (.bool aq)/\w'.cell? ⟨dw,1,none⟩=some (.string ak)/\w'.cell? ⟨dw,2,none⟩=some (.string au))/\(w'.heap[dn]?=some (.cells #[.bool af,.string aa,.string aj] 40 (0,0)))/\(w'.heap[dw]?=some (.cells #[.bool aq,.string ak,.string au] 40 (0,0)))/\(w'.heap[ej]?=some (.cells #[.bool false,.string ⟨#[]⟩,.string ⟨#[]⟩] 40 (0,0)))/\(Below w.heap.size w w')) ?_ ?_;rotate_left
           ·intro aqn
            refine lO (σ:=Nat) 5 (zb 13 2287) (fun s_=>[(23,.agg #[.bool t130,.string t131]),(5,.pointer (some ⟨s_,0,none⟩))]) (fun s_ w'=>(w'.cell? ⟨dn,0,none⟩=some (.bool af)/\w'.cell? ⟨dn,1,none⟩=some (.string aa)/\w'.cell? ⟨dn,2,none⟩=some (.string aj)/\w'.cell? ⟨dw,0,none⟩=some (.bool aq)/\w'.cell? ⟨dw,1,none⟩=some (.string ak)/\w'.cell? ⟨dw,2,none⟩=some (.string au))/\(w'.heap[dn]?=some (.cells #[.bool af,.string aa,.string aj] 40 (0,0)))/\(w'.heap[dw]?=some (.cells #[.bool aq,.string ak,.string au] 40 (0,0)))/\(w'.heap[ej]?=some (.cells #[.bool false,.string ⟨#[]⟩,.string ⟨#[]⟩] 40 (0,0)))/\(w'.heap[s_]?=some (.cells #[.bool false,.string ⟨#[]⟩] 38 (0,0)))/\(w.heap.size<=s_)/\(w.heap.size<=s_)/\(dn≠s_)/\(s_≠dn)/\(dw≠s_)/\(s_≠dw)/\(ej≠s_)/\(s_≠ej)/\(Below w.heap.size w w')) ?_ ?_;rotate_left
            ·intro adr
             refine lO (σ:=Unit) 6 (zb 13 239) (fun s_=>[(23,.agg #[.bool t130,.string t131])]) (fun s_ w'=>(w'.cell? ⟨dn,0,none⟩=some (.bool af)/\w'.cell? ⟨dn,1,none⟩=some (.string aa)/\w'.cell? ⟨dn,2,none⟩=some (.string aj)/\w'.cell? ⟨dw,0,none⟩=some (.bool aq)/\w'.cell? ⟨dw,1,none⟩=some (.string ak)/\w'.cell? ⟨dw,2,none⟩=some (.string au))/\(w'.heap[dn]?=some (.cells #[.bool af,.string aa,.string aj] 40 (0,0)))/\(w'.heap[dw]?=some (.cells #[.bool aq,.string ak,.string au] 40 (0,0)))/\(w'.heap[ej]?=some (.cells #[.bool false,.string ⟨#[]⟩,.string ⟨#[]⟩] 40 (0,0)))/\(Below w.heap.size w w')) ?_ ?_;rotate_left
             ·intro hJ3
              refine lO (σ:=Nat) 6 (zb 13 2279) (fun s_=>[(5,.pointer (some ⟨s_,0,none⟩))]) (fun s_ w'=>(w'.cell? ⟨dn,0,none⟩=some (.bool af)/\w'.cell? ⟨dn,1,none⟩=some (.string aa)/\w'.cell? ⟨dn,2,none⟩=some (.string aj)/\w'.cell? ⟨dw,0,none⟩=some (.bool aq)/\w'.cell? ⟨dw,1,none⟩=some (.string ak)/\w'.cell? ⟨dw,2,none⟩=some (.string au))/\(w'.heap[dn]?=some (.cells #[.bool af,.string aa,.string aj] 40 (0,0)))/\(w'.heap[dw]?=some (.cells #[.bool aq,.string ak,.string au] 40 (0,0)))/\(w'.heap[ej]?=some (.cells #[.bool false,.string ⟨#[]⟩,.string ⟨#[]⟩] 40 (0,0)))/\(w'.heap[s_]?=some (.cells #[.bool false,.string ⟨#[]⟩] 38 (0,0)))/\(w.heap.size<=s_)/\(w.heap.size<=s_)/\(dn≠s_)/\(s_≠dn)/\(dw≠s_)/\(s_≠dw)/\(ej≠s_)/\(s_≠ej)/\(Below w.heap.size w w')) ?_ ?_;rotate_left
              ·intro at3
               refine qB (i:=3) (j:=11) (Ni:=some 23) (Nj:=some 5) (zb 13 239) (zb 13 2279) rfl rfl rfl rfl (qy av.out qk) qd qd (fun K hK=>?_) (fun K hK=>?_)
               ·skip
                refine zJ Tryz.func78 qk (lZ.calls aq ak au t130 t131 _ Ka.out) fun BR hb=>?_;obtain⟨aY,a_,bQ⟩:=bB aY a_ bQ hb;replace HB:=zS HB hb
                (try clear hb)
                refine hK.out _ _ ⟨zc aY 0,zc aY 1,zc aY 2,zc a_ 0,zc a_ 1,zc a_ 2⟩ (fun hHeld=>?_);clear hK K;refine zW (some 23) ?_;exact zA (hJ3 () _ ⟨hHeld,(zK aY).out,(zK a_).out,(zK bQ).out,(zT HB)⟩)
               ·skip
                refine m_ ?hg (N:=5) ?hd (cs:=#[.bool false,.string ⟨#[]⟩]) (t:=38) ?hr ?_;(case hd=>rfl);(case hg=>rfl);(case hr=>first|(go_simp;done)|(go_simp;rfl))
                intro eD hg BR ah hb;have dG:=qa (ah);have nk:=zG hg HB;have nu:=zG hg HB;obtain⟨jR,l6⟩:=zQ hg aY;obtain⟨jS,l7⟩:=zQ hg a_;obtain⟨kV,jo⟩:=zQ hg bQ;obtain⟨aY,a_,bQ⟩:=bB aY a_ bQ hb;replace HB:=zS HB hb;clear hb ah hg;refine hK.out _ _ ⟨zc aY 0,zc aY 1,zc aY 2,zc a_ 0,zc a_ 1,zc a_ 2⟩ (fun hHeld=>?_);clear hK K;refine zW (some 5) ?_;exact zA (at3 (eD) _ ⟨hHeld,(zK aY).out,(zK a_).out,(zK bQ).out,(zK dG).out,nk.out,nu.out,jR.out,l6.out,jS.out,l7.out,kV.out,jo.out,(zT HB)⟩)
              ·skip
               rintro eD rG ⟨eP,cE,cF,cG,cH,fZ,f_,gf,iJ,iK,iL,iB,iC,iD⟩;replace aY:=qa cE;replace a_:=qa cF;replace bQ:=qa cG;have dG:=qa cH;have nk:=qa fZ;have nu:=qa f_;have jR:=qa gf;have l6:=qa iJ;have jS:=qa iK;have l7:=qa iL;have kV:=qa iB;have jo:=qa iC;replace HB:=qa iD;clear cE cF cG cH fZ f_ gf iJ iK iL iB iC iD;have hHeld:=eP;refine iP (a':=?_) ?_ ?_;rotate_left
               ·simp only[gR,Act.put,List.setIfInBounds_toArray,List.set_cons_zero,List.set_cons_succ]
                rfl
               refine bM (i:=3) (N:=some 23) (zb 13 2287) rfl rfl (bO av.out qk) qd (fun K hK=>?_);refine zJ Tryz.func78 qk (lZ.calls aq ak au t130 t131 _ Ka.out) fun G4 hb=>?_;obtain⟨aY,a_,bQ,dG⟩:=kR aY a_ bQ dG hb;replace HB:=zS HB hb
               (try clear hb)
               refine hK.out _ _ ⟨zc aY 0,zc aY 1,zc aY 2,zc a_ 0,zc a_ 1,zc a_ 2⟩ (fun hHeld=>?_);clear hK K;refine zW (some 23) ?_;exact zA (adr (eD) _ ⟨hHeld,(zK aY).out,(zK a_).out,(zK bQ).out,(zK dG).out,nk.out,nu.out,jR.out,l6.out,jS.out,l7.out,kV.out,jo.out,(zT HB)⟩)
             ·skip
              rintro _ rG ⟨eP,cE,cF,cG,cH⟩;replace aY:=qa cE;replace a_:=qa cF;replace bQ:=qa cG;replace HB:=qa cH;clear cE cF cG cH;have hHeld:=eP;refine iP (a':=?_) ?_ ?_;rotate_left
              ·simp only[gR,Act.put,List.setIfInBounds_toArray,List.set_cons_zero,List.set_cons_succ]
               rfl
              refine qB (i:=4) (j:=11) (Ni:=some 24) (Nj:=some 5) (zb 13 255) (zb 13 2287) rfl rfl rfl rfl (qy av.out qk) qd qd (fun K hK=>?_) (fun K hK=>?_)
              ·skip
               refine zJ Tryz.func76 qk (oT.calls af aa t130 t131 t132 t133 _ Su.out) fun G4 hb=>?_;obtain⟨aY,a_,bQ⟩:=bB aY a_ bQ hb;replace HB:=zS HB hb
               (try clear hb)
               refine hK.out _ _ ⟨zc aY 0,zc aY 1,zc aY 2,zc a_ 0,zc a_ 1,zc a_ 2⟩ (fun hHeld=>?_);clear hK K;refine zW (some 24) ?_;exact zA (aqn () _ ⟨hHeld,(zK aY).out,(zK a_).out,(zK bQ).out,(zT HB)⟩)
              ·skip
               refine m_ ?hg (N:=5) ?hd (cs:=#[.bool false,.string ⟨#[]⟩]) (t:=38) ?hr ?_;(case hd=>rfl);(case hg=>rfl);(case hr=>first|(go_simp;done)|(go_simp;rfl))
               intro eD hg G4 ah hb;have dG:=qa (ah);have nk:=zG hg HB;have nu:=zG hg HB;obtain⟨jR,l6⟩:=zQ hg aY;obtain⟨jS,l7⟩:=zQ hg a_;obtain⟨kV,jo⟩:=zQ hg bQ;obtain⟨aY,a_,bQ⟩:=bB aY a_ bQ hb;replace HB:=zS HB hb;clear hb ah hg;refine hK.out _ _ ⟨zc aY 0,zc aY 1,zc aY 2,zc a_ 0,zc a_ 1,zc a_ 2⟩ (fun hHeld=>?_);clear hK K;refine zW (some 5) ?_;exact zA (adr (eD) _ ⟨hHeld,(zK aY).out,(zK a_).out,(zK bQ).out,(zK dG).out,nk.out,nu.out,jR.out,l6.out,jS.out,l7.out,kV.out,jo.out,(zT HB)⟩)
            ·skip
             rintro eD G4 ⟨eP,cE,cF,cG,cH,fZ,f_,gf,iJ,iK,iL,iB,iC,iD⟩;replace aY:=qa cE;replace a_:=qa cF;replace bQ:=qa cG;have dG:=qa cH;have nk:=qa fZ;have nu:=qa f_;have jR:=qa gf;have l6:=qa iJ;have jS:=qa iK;have l7:=qa iL;have kV:=qa iB;have jo:=qa iC;replace HB:=qa iD;clear cE cF cG cH fZ f_ gf iJ iK iL iB iC iD;have hHeld:=eP;refine iP (a':=?_) ?_ ?_;rotate_left
             ·simp only[gR,Act.put,List.setIfInBounds_toArray,List.set_cons_zero,List.set_cons_succ]
              rfl
             refine bM (i:=4) (N:=some 24) (zb 13 2303) rfl rfl (bO av.out qk) qd (fun K hK=>?_);refine zJ Tryz.func76 qk (oT.calls af aa t130 t131 t132 t133 _ Su.out) fun G5 hb=>?_;obtain⟨aY,a_,bQ,dG⟩:=kR aY a_ bQ dG hb;replace HB:=zS HB hb
             (try clear hb)
             refine hK.out _ _ ⟨zc aY 0,zc aY 1,zc aY 2,zc a_ 0,zc a_ 1,zc a_ 2⟩ (fun hHeld=>?_);clear hK K;refine zW (some 24) ?_;exact zA (aa8 (eD) _ ⟨hHeld,(zK aY).out,(zK a_).out,(zK bQ).out,(zK dG).out,nk.out,nu.out,jR.out,l6.out,jS.out,l7.out,kV.out,jo.out,(zT HB)⟩)
           ·skip
            rintro _ G4 ⟨eP,cE,cF,cG,cH⟩;replace aY:=qa cE;replace a_:=qa cF;replace bQ:=qa cG;replace HB:=qa cH;clear cE cF cG cH;have hHeld:=eP;refine iP (a':=?_) ?_ ?_;rotate_left
            ·simp only[gR,Act.put,List.setIfInBounds_toArray,List.set_cons_zero,List.set_cons_succ]
             rfl
            refine qB (i:=8) (j:=11) (Ni:=some 28) (Nj:=some 5) (zb 13 511) (zb 13 2303) rfl rfl rfl rfl (qy av.out qk) qd qd (fun K hK=>?_) (fun K hK=>?_)
            ·skip
             refine zJ Tryz.func78 qk (lZ.calls af aa aj t134 t135 _ Sv.out) fun G5 hb=>?_;obtain⟨aY,a_,bQ⟩:=bB aY a_ bQ hb;replace HB:=zS HB hb
             (try clear hb)
             refine hK.out _ _ ⟨zc aY 0,zc aY 1,zc aY 2,zc a_ 0,zc a_ 1,zc a_ 2⟩ (fun hHeld=>?_);clear hK K;refine zW (some 28) ?_;exact zA (alS () _ ⟨hHeld,(zK aY).out,(zK a_).out,(zK bQ).out,(zT HB)⟩)
            ·skip
             refine m_ ?hg (N:=5) ?hd (cs:=#[.bool false,.string ⟨#[]⟩]) (t:=38) ?hr ?_;(case hd=>rfl);(case hg=>rfl);(case hr=>first|(go_simp;done)|(go_simp;rfl))
             intro eD hg G5 ah hb;have dG:=qa (ah);have nk:=zG hg HB;have nu:=zG hg HB;obtain⟨jR,l6⟩:=zQ hg aY;obtain⟨jS,l7⟩:=zQ hg a_;obtain⟨kV,jo⟩:=zQ hg bQ;obtain⟨aY,a_,bQ⟩:=bB aY a_ bQ hb;replace HB:=zS HB hb;clear hb ah hg;refine hK.out _ _ ⟨zc aY 0,zc aY 1,zc aY 2,zc a_ 0,zc a_ 1,zc a_ 2⟩ (fun hHeld=>?_);clear hK K;refine zW (some 5) ?_;exact zA (aa8 (eD) _ ⟨hHeld,(zK aY).out,(zK a_).out,(zK bQ).out,(zK dG).out,nk.out,nu.out,jR.out,l6.out,jS.out,l7.out,kV.out,jo.out,(zT HB)⟩)
          ·skip
           rintro eD G5 ⟨eP,cE,cF,cG,cH,fZ,f_,gf,iJ,iK,iL,iB,iC,iD⟩;replace aY:=qa cE;replace a_:=qa cF;replace bQ:=qa cG;have dG:=qa cH;have nk:=qa fZ;have nu:=qa f_;have jR:=qa gf;have l6:=qa iJ;have jS:=qa iK;have l7:=qa iL;have kV:=qa iB;have jo:=qa iC;replace HB:=qa iD;clear cE cF cG cH fZ f_ gf iJ iK iL iB iC iD;have hHeld:=eP;refine iP (a':=?_) ?_ ?_;rotate_left
           ·simp only[gR,Act.put,List.setIfInBounds_toArray,List.set_cons_zero,List.set_cons_succ]
            rfl
           refine bM (i:=8) (N:=some 28) (zb 13 2559) rfl rfl (bO av.out qk) qd (fun K hK=>?_);refine zJ Tryz.func78 qk (lZ.calls af aa aj t134 t135 _ Sv.out) fun NS hb=>?_;obtain⟨aY,a_,bQ,dG⟩:=kR aY a_ bQ dG hb;replace HB:=zS HB hb
           (try clear hb)
           refine hK.out _ _ ⟨zc aY 0,zc aY 1,zc aY 2,zc a_ 0,zc a_ 1,zc a_ 2⟩ (fun hHeld=>?_);clear hK K;refine zW (some 28) ?_;exact zA (aau (eD) _ ⟨hHeld,(zK aY).out,(zK a_).out,(zK bQ).out,(zK dG).out,nk.out,nu.out,jR.out,l6.out,jS.out,l7.out,kV.out,jo.out,(zT HB)⟩)
         ·skip
          rintro _ G5 ⟨eP,cE,cF,cG,cH⟩;replace aY:=qa cE;replace a_:=qa cF;replace bQ:=qa cG;replace HB:=qa cH;clear cE cF cG cH;have hHeld:=eP;refine iP (a':=?_) ?_ ?_;rotate_left
          ·simp only[gR,Act.put,List.setIfInBounds_toArray,List.set_cons_zero,List.set_cons_succ]
           rfl
          refine qB (i:=9) (j:=11) (Ni:=some 29) (Nj:=some 5) (zb 13 1023) (zb 13 2559) rfl rfl rfl rfl (qy av.out qk) qd qd (fun K hK=>?_) (fun K hK=>?_)
          ·skip
           refine zJ Tryz.func76 qk (oT.calls aq ak t134 t135 t136 t137 _ Sw.out) fun NS hb=>?_;obtain⟨aY,a_,bQ⟩:=bB aY a_ bQ hb;replace HB:=zS HB hb
           (try clear hb)
           refine hK.out _ _ ⟨zc aY 0,zc aY 1,zc aY 2,zc a_ 0,zc a_ 1,zc a_ 2⟩ (fun hHeld=>?_);clear hK K;refine zW (some 29) ?_;exact zA (ajH () _ ⟨hHeld,(zK aY).out,(zK a_).out,(zK bQ).out,(zT HB)⟩)
          ·skip
           refine m_ ?hg (N:=5) ?hd (cs:=#[.bool false,.string ⟨#[]⟩]) (t:=38) ?hr ?_;(case hd=>rfl);(case hg=>rfl);(case hr=>first|(go_simp;done)|(go_simp;rfl))
           intro eD hg NS ah hb;have dG:=qa (ah);have nk:=zG hg HB;have nu:=zG hg HB;obtain⟨jR,l6⟩:=zQ hg aY;obtain⟨jS,l7⟩:=zQ hg a_;obtain⟨kV,jo⟩:=zQ hg bQ;obtain⟨aY,a_,bQ⟩:=bB aY a_ bQ hb;replace HB:=zS HB hb;clear hb ah hg;refine hK.out _ _ ⟨zc aY 0,zc aY 1,zc aY 2,zc a_ 0,zc a_ 1,zc a_ 2⟩ (fun hHeld=>?_);clear hK K;refine zW (some 5) ?_;exact zA (aau (eD) _ ⟨hHeld,(zK aY).out,(zK a_).out,(zK bQ).out,(zK dG).out,nk.out,nu.out,jR.out,l6.out,jS.out,l7.out,kV.out,jo.out,(zT HB)⟩)
        ·skip
         rintro eD NS ⟨eP,cE,cF,cG,cH,fZ,f_,gf,iJ,iK,iL,iB,iC,iD⟩;replace aY:=qa cE;replace a_:=qa cF;replace bQ:=qa cG;have dG:=qa cH;have nk:=qa fZ;have nu:=qa f_;have jR:=qa gf;have l6:=qa iJ;have jS:=qa iK;have l7:=qa iL;have kV:=qa iB;have jo:=qa iC;replace HB:=qa iD;clear cE cF cG cH fZ f_ gf iJ iK iL iB iC iD;have hHeld:=eP;refine iP (a':=?_) ?_ ?_;rotate_left
         ·simp only[gR,Act.put,List.setIfInBounds_toArray,List.set_cons_zero,List.set_cons_succ]
          rfl
         refine bM (i:=9) (N:=some 29) (zb 13 3071) rfl rfl (bO av.out qk) qd (fun K hK=>?_);refine zJ Tryz.func76 qk (oT.calls aq ak t134 t135 t136 t137 _ Sw.out) fun Ke hb=>?_;obtain⟨aY,a_,bQ,dG⟩:=kR aY a_ bQ dG hb;replace HB:=zS HB hb
         (try clear hb)
         refine hK.out _ _ ⟨zc aY 0,zc aY 1,zc aY 2,zc a_ 0,zc a_ 1,zc a_ 2⟩ (fun hHeld=>?_);clear hK K;refine zW (some 29) ?_;exact zA (aai (eD) _ ⟨hHeld,(zK aY).out,(zK a_).out,(zK bQ).out,(zK dG).out,nk.out,nu.out,jR.out,l6.out,jS.out,l7.out,kV.out,jo.out,(zT HB)⟩)
       ·skip
        rintro _ NS ⟨eP,cE,cF,cG,cH⟩;replace aY:=qa cE;replace a_:=qa cF;replace bQ:=qa cG;replace HB:=qa cH;clear cE cF cG cH;have hHeld:=eP;refine iP (a':=?_) ?_ ?_;rotate_left
        ·simp only[gR,Act.put,List.setIfInBounds_toArray,List.set_cons_zero,List.set_cons_succ]
         rfl
        refine qB (i:=10) (j:=11) (Ni:=some 30) (Nj:=some 5) (zb 13 2047) (zb 13 3071) rfl rfl rfl rfl (qy av.out qk) qd qd (fun K hK=>?_) (fun K hK=>?_)
        ·skip
         refine zJ Tryz.func89 qk (yF.calls t132 t133 t136 t137 t138 t139 _ Sy.out) fun Ke hb=>?_;obtain⟨aY,a_,bQ⟩:=bB aY a_ bQ hb;replace HB:=zS HB hb
         (try clear hb)
         refine hK.out _ _ ⟨zc aY 0,zc aY 1,zc aY 2,zc a_ 0,zc a_ 1,zc a_ 2⟩ (fun hHeld=>?_);clear hK K;refine zW (some 30) ?_;exact zA (ai8 () _ ⟨hHeld,(zK aY).out,(zK a_).out,(zK bQ).out,(zT HB)⟩)
        ·skip
         refine m_ ?hg (N:=5) ?hd (cs:=#[.bool false,.string ⟨#[]⟩]) (t:=38) ?hr ?_;(case hd=>rfl);(case hg=>rfl);(case hr=>first|(go_simp;done)|(go_simp;rfl))
         intro eD hg Ke ah hb;have dG:=qa (ah);have nk:=zG hg HB;have nu:=zG hg HB;obtain⟨jR,l6⟩:=zQ hg aY;obtain⟨jS,l7⟩:=zQ hg a_;obtain⟨kV,jo⟩:=zQ hg bQ;obtain⟨aY,a_,bQ⟩:=bB aY a_ bQ hb;replace HB:=zS HB hb;clear hb ah hg;refine hK.out _ _ ⟨zc aY 0,zc aY 1,zc aY 2,zc a_ 0,zc a_ 1,zc a_ 2⟩ (fun hHeld=>?_);clear hK K;refine zW (some 5) ?_;exact zA (aai (eD) _ ⟨hHeld,(zK aY).out,(zK a_).out,(zK bQ).out,(zK dG).out,nk.out,nu.out,jR.out,l6.out,jS.out,l7.out,kV.out,jo.out,(zT HB)⟩)
      ·skip
       rintro eD Ke ⟨eP,cE,cF,cG,cH,fZ,f_,gf,iJ,iK,iL,iB,iC,iD⟩;replace aY:=qa cE;replace a_:=qa cF;replace bQ:=qa cG;have dG:=qa cH;have nk:=qa fZ;have nu:=qa f_;have jR:=qa gf;have l6:=qa iJ;have jS:=qa iK;have l7:=qa iL;have kV:=qa iB;have jo:=qa iC;replace HB:=qa iD;clear cE cF cG cH fZ f_ gf iJ iK iL iB iC iD;have hHeld:=eP;refine iP (a':=?_) ?_ ?_;rotate_left
       ·simp only[gR,Act.put,List.setIfInBounds_toArray,List.set_cons_zero,List.set_cons_succ]
        rfl
       refine bM (i:=10) (N:=some 30) (zb 13 4095) rfl rfl (bO av.out qk) qd (fun K hK=>?_);refine zJ Tryz.func89 qk (yF.calls t132 t133 t136 t137 t138 t139 _ Sy.out) fun wP hb=>?_;obtain⟨aY,a_,bQ,dG⟩:=kR aY a_ bQ dG hb;replace HB:=zS HB hb
       (try clear hb)
       refine hK.out _ _ ⟨zc aY 0,zc aY 1,zc aY 2,zc a_ 0,zc a_ 1,zc a_ 2⟩ (fun hHeld=>?_);clear hK K;refine zW (some 30) ?_;exact zA (aac (eD) _ ⟨hHeld,(zK aY).out,(zK a_).out,(zK bQ).out,(zK dG).out,nk.out,nu.out,jR.out,l6.out,jS.out,l7.out,kV.out,jo.out,(zT HB)⟩)
     ·skip
      rintro _ Ke ⟨eP,cE,cF,cG,cH⟩;replace aY:=qa cE;replace a_:=qa cF;replace bQ:=qa cG;replace HB:=qa cH;clear cE cF cG cH;have hHeld:=eP;refine iP (a':=?_) ?_ ?_;rotate_left
      ·simp only[gR,Act.put,List.setIfInBounds_toArray,List.set_cons_zero,List.set_cons_succ]
       rfl
      refine bM (i:=11) (N:=some 5) (zb 13 4095) rfl rfl (bO av.out qk) qd (fun K hK=>?_);refine m_ ?hg (N:=5) ?hd (cs:=#[.bool false,.string ⟨#[]⟩]) (t:=38) ?hr ?_;(case hd=>rfl);(case hg=>rfl);(case hr=>first|(go_simp;done)|(go_simp;rfl))
      intro eD hg wP ah hb;have dG:=qa (ah);have nk:=zG hg HB;have nu:=zG hg HB;obtain⟨jR,l6⟩:=zQ hg aY;obtain⟨jS,l7⟩:=zQ hg a_;obtain⟨kV,jo⟩:=zQ hg bQ;obtain⟨aY,a_,bQ⟩:=bB aY a_ bQ hb;replace HB:=zS HB hb;clear hb ah hg;refine hK.out _ _ ⟨zc aY 0,zc aY 1,zc aY 2,zc a_ 0,zc a_ 1,zc a_ 2⟩ (fun hHeld=>?_);clear hK K;refine zW (some 5) ?_;exact zA (aac (eD) _ ⟨hHeld,(zK aY).out,(zK a_).out,(zK bQ).out,(zK dG).out,nk.out,nu.out,jR.out,l6.out,jS.out,l7.out,kV.out,jo.out,(zT HB)⟩)
    rintro eD wP ⟨eP,cE,cF,cG,cH,fZ,f_,gf,iJ,iK,iL,iB,iC,iD⟩;replace aY:=qa cE;replace a_:=qa cF;replace bQ:=qa cG;have dG:=qa cH;have nk:=qa fZ;have nu:=qa f_;have jR:=qa gf;have l6:=qa iJ;have jS:=qa iK;have l7:=qa iL;have kV:=qa iB;have jo:=qa iC;replace HB:=qa iD;clear cE cF cG cH fZ f_ gf iJ iK iL iB iC iD;have hHeld:=eP;refine iP (a':=?_) ?_ ?_;rotate_left
    ·simp only[gR,Act.put,List.setIfInBounds_toArray,List.set_cons_zero,List.set_cons_succ]
     rfl
    refine bM (i:=12) (N:=none) (zb 13 8191) rfl rfl (bO av.out qk) qd (fun K hK=>?_);have aB3:wP.cell? ⟨eD,0,none⟩=some (.bool false):=zc dG 0;have ay':=b_ dG.out 0;have avQ:=jR.out;have avR:=jS.out;have avS:=kV.out;have avT:=l6.out;have avU:=l7.out;have avV:=jo.out;have aB4:wP.cell? ⟨eD,1,none⟩=some (.string ⟨#[]⟩):=zc dG 1;have aza:=b_ dG.out 1;have avW:=jR.out;have avX:=jS.out;have avY:=kV.out;have avZ:=l6.out;have av0:=l7.out;have av1:=jo.out;refine qA (w1:=?_) (by rfl) rfl ?_ ?_;rotate_left
    ·go_simp
     rfl
    refine hK.out _ _ ⟨((cell_far (p:=⟨eD,_,none⟩) jR.out _).trans (((cell_far (p:=⟨eD,_,none⟩) jR.out _).trans (hHeld.1)))),((cell_far (p:=⟨eD,_,none⟩) jR.out _).trans (((cell_far (p:=⟨eD,_,none⟩) jR.out _).trans (hHeld.2.1)))),((cell_far (p:=⟨eD,_,none⟩) jR.out _).trans (((cell_far (p:=⟨eD,_,none⟩) jR.out _).trans (hHeld.2.2.1)))),((cell_far (p:=⟨eD,_,none⟩) jS.out _).trans (((cell_far (p:=⟨eD,_,none⟩) jS.out _).trans (hHeld.2.2.2.1)))),((cell_far (p:=⟨eD,_,none⟩) jS.out _).trans (((cell_far (p:=⟨eD,_,none⟩) jS.out _).trans (hHeld.2.2.2.2.1)))),((cell_far (p:=⟨eD,_,none⟩) jS.out _).trans (((cell_far (p:=⟨eD,_,none⟩) jS.out _).trans (hHeld.2.2.2.2.2))))⟩ (fun hHeld=>?_);clear hK K;refine mh (ng av.out qk) ?_;try go_wp2
    have G6:aO (((wP.setCell ⟨eD,0,none⟩ (.bool t138)).setCell ⟨eD,1,none⟩ (.string t139)).heap[dn]?=some (.cells #[.bool af,.string aa,.string aj] 40 (0,0))):=zK aY;have gy:aO (((wP.setCell ⟨eD,0,none⟩ (.bool t138)).setCell ⟨eD,1,none⟩ (.string t139)).heap[dw]?=some (.cells #[.bool aq,.string ak,.string au] 40 (0,0))):=zK a_;have iV:aO (((wP.setCell ⟨eD,0,none⟩ (.bool t138)).setCell ⟨eD,1,none⟩ (.string t139)).heap[ej]?=some (.cells #[.bool false,.string ⟨#[]⟩,.string ⟨#[]⟩] 40 (0,0))):=zK bQ;have rH:aO (((wP.setCell ⟨eD,0,none⟩ (.bool t138)).setCell ⟨eD,1,none⟩ (.string t139)).heap[eD]?=some (.cells #[.bool t138,.string t139] 38 (0,0))):=⟨Kx dG⟩;have qK:aO (Below w.heap.size w ((wP.setCell ⟨eD,0,none⟩ (.bool t138)).setCell ⟨eD,1,none⟩ (.string t139))):=⟨zT HB⟩
    (try clear aY)
    (try clear a_)
    (try clear bQ)
    (try clear dG)
    (try clear HB)
    generalize ((wP.setCell ⟨eD,0,none⟩ (.bool t138)).setCell ⟨eD,1,none⟩ (.string t139))=Kf at G6 gy iV rH qK ⊢;have aY:=G6;have a_:=gy;have bQ:=iV;have dG:=rH;have HB:=qK;clear G6 gy iV rH qK;replace aY:=zD aY;replace a_:=zD a_;replace bQ:=zD bQ;replace dG:=zD dG;replace HB:=zF HB;refine mg (n:=8) (S:=fun w'=>w'.cell? ⟨eD,0,none⟩=some (.bool t138)/\w'.cell? ⟨eD,1,none⟩=some (.string t139)/\w'.cell? ⟨dn,0,none⟩=some (.bool af)/\w'.cell? ⟨dn,1,none⟩=some (.string aa)/\w'.cell? ⟨dn,2,none⟩=some (.string aj)/\w'.cell? ⟨dw,0,none⟩=some (.bool aq)/\w'.cell? ⟨dw,1,none⟩=some (.string ak)/\w'.cell? ⟨dw,2,none⟩=some (.string au)) (ds:=[]) (zb 8 0) qk rfl rfl ⟨zc dG 0,zc dG 1,zc aY 0,zc aY 1,zc aY 2,zc a_ 0,zc a_ 1,zc a_ 2⟩ (fun hHeld=>?_);refine mZ iQ.Bf iQ.AO (fun av bN=>?_);generalize Kf.drew=D_ at aY a_ bQ dG HB hHeld ⊢;refine zV (i:=0) (N:=some 31) (zb 8 1) (cg av.out bN.out qk) hHeld ?_;refine zV (i:=1) (N:=some 32) (zb 8 3) (cg av.out bN.out qk) hHeld ?_;refine zV (i:=3) (N:=some 34) (zb 8 11) (cg av.out bN.out qk) hHeld ?_;refine bM (i:=2) (N:=some 33) (zb 8 15) rfl rfl (bO av.out qk) qd (fun K hK=>?_);refine zJ Tryz.func78 qk (lZ.calls af aa aj t141 t142 _ Kb.out) fun BS hb=>?_;obtain⟨aY,a_,bQ,dG⟩:=kR aY a_ bQ dG hb;replace HB:=zS HB hb
    (try clear hb)
    refine hK.out _ _ ⟨zc dG 0,zc dG 1,zc aY 0,zc aY 1,zc aY 2,zc a_ 0,zc a_ 1,zc a_ 2⟩ (fun hHeld=>?_);clear hK K;refine zW (some 33) ?_;refine bM (i:=4) (N:=some 35) (zb 8 31) rfl rfl (bO av.out qk) qd (fun K hK=>?_);refine zJ Tryz.func78 qk (lZ.calls aq ak au t143 t144 _ D9.out) fun Ea hb=>?_;obtain⟨aY,a_,bQ,dG⟩:=kR aY a_ bQ dG hb;replace HB:=zS HB hb
    (try clear hb)
    refine hK.out _ _ ⟨zc dG 0,zc dG 1,zc aY 0,zc aY 1,zc aY 2,zc a_ 0,zc a_ 1,zc a_ 2⟩ (fun hHeld=>?_);clear hK K;refine zW (some 35) ?_;refine bM (i:=5) (N:=some 36) (zb 8 63) rfl rfl (bO av.out qk) qd (fun K hK=>?_);refine zJ Tryz.func76 qk (oT.calls t141 t142 t143 t144 t145 t146 _ A32.out) fun Eb hb=>?_;obtain⟨aY,a_,bQ,dG⟩:=kR aY a_ bQ dG hb;replace HB:=zS HB hb
    (try clear hb)
    refine hK.out _ _ ⟨zc dG 0,zc dG 1,zc aY 0,zc aY 1,zc aY 2,zc a_ 0,zc a_ 1,zc a_ 2⟩ (fun hHeld=>?_);clear hK K;refine zW (some 36) ?_;refine bM (i:=6) (N:=some 37) (zb 8 127) rfl rfl (bO av.out qk) qd (fun K hK=>?_);refine zJ Tryz.func77 qk (Ah.calls t138 t139 t145 t146 t147 t148 t149 _ Sz.out) fun uF hb=>?_;obtain⟨aY,a_,bQ,dG⟩:=kR aY a_ bQ dG hb;replace HB:=zS HB hb
    (try clear hb)
    refine hK.out _ _ ⟨zc dG 0,zc dG 1,zc aY 0,zc aY 1,zc aY 2,zc a_ 0,zc a_ 1,zc a_ 2⟩ (fun hHeld=>?_);clear hK K;refine zW (some 37) ?_;refine bM (i:=7) (N:=none) (zb 8 255) rfl rfl (bO av.out qk) qd (fun K hK=>?_);have agH:uF.cell? ⟨ej,0,none⟩=some (.bool false):=zc bQ 0;have aeu:=b_ bQ.out 0;have abB:=rP.out;have alT:=tQ.out;have av2:=jo.out;have abC:=Hy.out;have alU:=KD.out;have av3:=kV.out;have at4:uF.cell? ⟨ej,1,none⟩=some (.string ⟨#[]⟩):=zc bQ 1;have aqo:=b_ bQ.out 1;have alV:=rP.out;have alW:=tQ.out;have av4:=jo.out;have alX:=Hy.out;have alY:=KD.out;have av5:=kV.out;have aB5:uF.cell? ⟨ej,2,none⟩=some (.string ⟨#[]⟩):=zc bQ 2;have azb:=b_ bQ.out 2;have av6:=rP.out;have av7:=tQ.out;have av8:=jo.out;have av9:=Hy.out;have av_:=KD.out;have av':=kV.out;refine qA (w1:=?_) (by rfl) rfl ?_ ?_;rotate_left
    ·go_simp
     rfl
    refine hK.out _ _ ⟨((cell_far (p:=⟨ej,_,none⟩) jo.out _).trans (((cell_far (p:=⟨ej,_,none⟩) jo.out _).trans (((cell_far (p:=⟨ej,_,none⟩) jo.out _).trans (hHeld.1)))))),((cell_far (p:=⟨ej,_,none⟩) jo.out _).trans (((cell_far (p:=⟨ej,_,none⟩) jo.out _).trans (((cell_far (p:=⟨ej,_,none⟩) jo.out _).trans (hHeld.2.1)))))),((cell_far (p:=⟨ej,_,none⟩) rP.out _).trans (((cell_far (p:=⟨ej,_,none⟩) rP.out _).trans (((cell_far (p:=⟨ej,_,none⟩) rP.out _).trans (hHeld.2.2.1)))))),((cell_far (p:=⟨ej,_,none⟩) rP.out _).trans (((cell_far (p:=⟨ej,_,none⟩) rP.out _).trans (((cell_far (p:=⟨ej,_,none⟩) rP.out _).trans (hHeld.2.2.2.1)))))),((cell_far (p:=⟨ej,_,none⟩) rP.out _).trans (((cell_far (p:=⟨ej,_,none⟩) rP.out _).trans (((cell_far (p:=⟨ej,_,none⟩) rP.out _).trans (hHeld.2.2.2.2.1)))))),((cell_far (p:=⟨ej,_,none⟩) tQ.out _).trans (((cell_far (p:=⟨ej,_,none⟩) tQ.out _).trans (((cell_far (p:=⟨ej,_,none⟩) tQ.out _).trans (hHeld.2.2.2.2.2.1)))))),((cell_far (p:=⟨ej,_,none⟩) tQ.out _).trans (((cell_far (p:=⟨ej,_,none⟩) tQ.out _).trans (((cell_far (p:=⟨ej,_,none⟩) tQ.out _).trans (hHeld.2.2.2.2.2.2.1)))))),((cell_far (p:=⟨ej,_,none⟩) tQ.out _).trans (((cell_far (p:=⟨ej,_,none⟩) tQ.out _).trans (((cell_far (p:=⟨ej,_,none⟩) tQ.out _).trans (hHeld.2.2.2.2.2.2.2))))))⟩ (fun hHeld=>?_);clear hK K;refine mh (ng av.out qk) ?_;try go_wp2
    refine bodyPost_ret (results_cell_row rfl _ _ ej 40 #[.bool t147,.string t148,.string t149] (0,0) _ rfl (Kx bQ) Tryz.underlying40 rfl qk) rfl ?_;exact⟨zH,zT HB⟩
end Go.Proofs.aA.R
