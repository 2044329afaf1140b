import Derived.Test.YtfcjnhkkfmgmpaaGreatZsG31
set_option linter.all false
set_option maxRecDepth 100000
set_option maxHeartbeats 8000000
namespace Go.Proofs.aC.R
open Go.RowKit Go.Proofs.aC.Z Go.Proofs.aD.bf Go.Proofs.aD.ck Go.Proofs.aD.cL
attribute [local go_sem] cY cZ dm dn cW cX dc dh
def iL.j0:Nat→Bool→Bool→ByteArray→ByteArray→Bool→ByteArray→ByteArray→Option (Bool × ByteArray × ByteArray)
 | 0,_,_,_,_,_,_,_=>none
 | k+1,VW,Mu,Mv,YJ,Mw,Mx,YK=>if VW=true then ((wA.f Mu Mv Mw Mx).bind fun aa8=>(some (aa8.1,aa8.2,(⟨#[1]⟩:ByteArray)))) else ((lf.f Mw Mx YK).bind fun aa9=>((nU.f Mu Mv aa9.1 aa9.2).bind fun aa_=>((lf.f Mu Mv YJ).bind fun aa'=>((nU.f Mw Mx aa'.1 aa'.2).bind fun aba=>((wA.f aa_.1 aa_.2 aba.1 aba.2).bind fun abb=>((lf.f Mu Mv YJ).bind fun abc=>((lf.f Mw Mx YK).bind fun abd=>((nU.f abc.1 abc.2 abd.1 abd.2).bind fun abe=>((xz.f abb.1 abb.2 abe.1 abe.2).bind fun S9=>(some (S9.1,S9.2.1,S9.2.2)))))))))))
def iL.f (k:Nat) (af:Bool) (aa aj:ByteArray) (aq:Bool) (ak ay:ByteArray):Option (Bool × ByteArray × ByteArray):=if aj.toList=([1]:List UInt8) then (iL.j0 k (ay.toList==([1]:List UInt8)) af aa aj aq ak ay) else (iL.j0 k false af aa aj aq ak ay)
def iL.T3:Bool × List (List Nat × List Nat):=(true,[([],[]),([0],[0]),([],[]),([2],[2]),([1,3,3],[1,3]),([],[]),([5],[5]),([],[]),([7,4],[7]),([6,8,8],[6,8]),([4,9,9],[4,9]),([],[]),([11,10,10,0,1,2,3,4,5,6,7,8,9,10,11],[10,11])])
def iL.B3:List Nat:=[0,1,0,4,15,0,32,0,159,511,1023,0,4095]
theorem iL.AK:gZ .any (opsOf Tryz.f74 3)=iL.T3:=by kernel_rfl
theorem iL.Ax:nG iL.T3.2 iL.B3=true:=by kernel_rfl
def iL.T4:Bool × List (List Nat × List Nat):=(true,[([],[]),([],[]),([1],[1]),([],[]),([3,2],[3]),([2,4,4],[2,4]),([0,5,5],[0,5]),([6,6,0,1,2,3,4,5,6],[6])])
def iL.B4:List Nat:=[0,0,2,0,14,30,63,127]
theorem iL.DA:gZ .any (opsOf Tryz.f74 4)=iL.T4:=by kernel_rfl
theorem iL.Db:nG iL.T4.2 iL.B4=true:=by kernel_rfl
theorem iL.calls (k:Nat) (af:Bool) (aa aj:ByteArray) (aq:Bool) (ak ay:ByteArray) (r1:Bool) (r2 r3:ByteArray) (w:World) (h:iL.f k af aa aj aq ak ay=some (r1,r2,r3)) :
  Calls Tryz.prog 74 #[.agg #[.bool af,.string aa,.string aj],.agg #[.bool aq,.string ak,.string ay]] w fun e w'=>e = .returned (.agg #[.bool r1,.string r2,.string r3])∧Below w.heap.size w w':=by
 have jT:=Tryz.underlying40;have yu:=Tryz.underlying38;have vT:=wQ;have yT:=wR;have hf2:=wS;have hf3:=wT;have HB:=qa (Below.refl w.heap.size w);unfold iL.f at h;have H:=h;clear h;have nS:=qa H;clear H;go_enter Tryz.func74,Tryz.ntmps74;go_upto_region 1 with (first|((with_reducible refine aZ (N:=2) rfl ?_);refine zY 2 #[.bool af,.string aa,.string aj] 40 ?_;intro dw hg w4 ah hb;have aW:=qa (ah);have awH:=zG hg HB;have awI:=zG hg HB;replace HB:=zS HB hb;clear hb ah hg)|((with_reducible refine aZ (N:=3) rfl ?_);refine zY 3 #[.bool aq,.string ak,.string ay] 40 ?_;intro dx hg w5 ah hb;have aY:=qa (ah);have awJ:=zG hg HB;have awK:=zG hg HB;obtain⟨Qc,Qd⟩:=zQ hg aW;replace aW:=zB aW hb;replace HB:=zS HB hb;clear hb ah hg)|((with_reducible refine aZ (N:=4) rfl ?_);refine zY 4 #[.bool false,.string ⟨#[]⟩,.string ⟨#[]⟩] 40 ?_;intro d_ hg w6 ah hb;have bI:=qa (ah);have awL:=zG hg HB;have awM:=zG hg HB;obtain⟨pZ,EW⟩:=zQ hg aW;obtain⟨q9,Hz⟩:=zQ hg aY;obtain⟨aW,aY⟩:=fN aW aY hb;replace HB:=zS HB hb;clear hb ah hg))
 (try simp only[Act.put,List.setIfInBounds_toArray,List.set_cons_zero,List.set_cons_succ])
 go_cut [13] (fun v13 wc=>∃ (kq:Nat) (NC:Bool),v13 = .bool NC∧aM (iL.j0 kq NC af aa aj aq ak ay=some (r1,r2,r3))∧aM (kq≤k)∧aM (wc.heap[dw]?=some (.cells #[.bool af,.string aa,.string aj] 40 (0,0)))∧aM (wc.heap[dx]?=some (.cells #[.bool aq,.string ak,.string ay] 40 (0,0)))∧aM (wc.heap[d_]?=some (.cells #[.bool false,.string ⟨#[]⟩,.string ⟨#[]⟩] 40 (0,0)))∧aM (Below w.heap.size w wc))
 case first =>
  have H:=nS.out;clear nS;by_cases c7:aj.toList=([1]:List UInt8)
  ·rw[if_pos c7]at H
   have nN:=beq_iff_eq.mpr c7;have AL:=bne_eq_false_iff_eq.mpr c7;clear c7
   (first|rw[nN]|(simp only[dJ,dK];rw[nN])|skip)
   have H':=qa H;clear H;have AM:=Qc.out;have AO:=Qd.out;have Uv:=pZ.out;have Uw:=EW.out;obtain⟨Rs,Rt,Ru,Rv,Rw,Rx⟩:=z3 aW;have S_:=q9.out;have Ta:=Hz.out;obtain⟨IB,IC,ID,IE,IF,IG⟩:=z3 aY;go_wp2
   go_meet
   case rel=>exact⟨_,((ay.toList==([1]:List UInt8))),zR,H',zL,zK aW,zK aY,zK bI,⟨zT HB⟩⟩
  ·rw[if_neg c7]at H
   have nN:=beq_eq_false_iff_ne.mpr c7;have AL:=bne_iff_ne.mpr c7
   (first|rw[nN]|(simp only[dJ,dK];rw[nN])|skip)
   have H':=qa H;clear H;have FV:=Qc.out;have FW:=Qd.out;have JC:=pZ.out;have JD:=EW.out;obtain⟨Fu,Fv,Fw,Fx,Fy,Fz⟩:=z3 aW;go_wp2
   go_meet
   case rel=>exact⟨_,(false),zR,H',zL,zK aW,zK aY,zK bI,⟨zT HB⟩⟩
 case rest =>
  clear nS;try clear c1;try clear p2;try clear c7;try clear nN;try clear AL;try clear c8;try clear c9;try clear c11;try clear c13;try clear c14;try clear Rs;try clear Rt;try clear Ru;try clear IB;try clear IC;try clear ID;try clear Fu;try clear Fv;try clear Fw;try clear Rv;try clear Rw;try clear Rx;try clear IE;try clear IF;try clear IG;try clear Fx;try clear Fy;try clear Fz
  obtain⟨kq,NC,rfl,HA,yU,aW,aY,bI,HB⟩:=hcut;cases kq with
  | zero=>exact absurd HA.out (by simp[iL.j0])
  | succ G7 =>
   have H:=HA.out;clear HA;simp only[iL.j0]at H;by_cases c16:NC=true
   ·subst c16
    rw[if_pos rfl]at H
    obtain⟨⟨t128,t129⟩,K9,H⟩:=zo H;try dsimp only at H
    simp only[Option.some.injEq,Prod.mk.injEq]at H;obtain⟨rfl,rfl,rfl⟩:=H;have JE:=Qc.out;have JF:=Qd.out;have Tb:=pZ.out;have Tc:=EW.out;obtain⟨FA,FB,FC,FD,FE,FF⟩:=z3 aW;have Td:=q9.out;have Te:=Hz.out;obtain⟨II,IJ,IK,IL,IM,IP⟩:=z3 aY;go_wp2_with (first|((with_reducible refine dB (f:=89) rfl ?_);refine zO Tryz.func89 (by kernel_rfl) (wA.calls af aa aq ak t128 t129 _ K9.out) fun Es hb=>?_;obtain⟨aW,aY,bI⟩:=bL aW aY bI hb;replace HB:=zS HB hb;(try clear hb);obtain⟨ahk,ahl,ahm,ahn,aho,ahp⟩:=z3 bI))
    refine bodyPost_ret (results_cell_row rfl _ _ d_ 40 #[.bool t128,.string t129,.string (⟨#[1]⟩:ByteArray)] (0,0) _ rfl (by (with_reducible repeat(first|refine aI ?_ _|refine aH ?_|refine aF ?_ _));refine zP (cs:=#[.bool t128,.string t129,.string ⟨#[]⟩]) ?_ 2 _;(with_reducible repeat(first|refine aI ?_ _|refine aH ?_|refine aF ?_ _));refine zP (cs:=#[.bool t128,.string ⟨#[]⟩,.string ⟨#[]⟩]) ?_ 1 _;(with_reducible repeat(first|refine aI ?_ _|refine aH ?_|refine aF ?_ _));refine zP (cs:=#[.bool false,.string ⟨#[]⟩,.string ⟨#[]⟩]) ?_ 0 _;(with_reducible repeat(first|refine aI ?_ _|refine aH ?_|refine aF ?_ _));exact bI.out) Tryz.underlying40 rfl (by kernel_rfl)) rfl ?_;exact⟨zH,zT HB⟩
   ·replace c16:=Bool.eq_false_iff.mpr c16
    subst c16;rw[if_neg zn]at H
    obtain⟨⟨t130,t131⟩,G8,H⟩:=zo H;try dsimp only at H
    obtain⟨⟨t132,t133⟩,Pq,H⟩:=zo H;try dsimp only at H
    obtain⟨⟨t134,t135⟩,Pt,H⟩:=zo H;try dsimp only at H
    obtain⟨⟨t136,t137⟩,Pu,H⟩:=zo H;try dsimp only at H
    obtain⟨⟨t138,t139⟩,Pv,H⟩:=zo H;try dsimp only at H
    obtain⟨⟨t141,t142⟩,G9,H⟩:=zo H;try dsimp only at H
    obtain⟨⟨t143,t144⟩,uo,H⟩:=zo H;try dsimp only at H
    obtain⟨⟨t145,t146⟩,K_,H⟩:=zo H;try dsimp only at H
    obtain⟨⟨t147,t148,t149⟩,BC,H⟩:=zo H;try dsimp only at H
    simp only[Option.some.injEq,Prod.mk.injEq]at H;obtain⟨rfl,rfl,rfl⟩:=H;try go_wp2
    replace aW:=zD aW;replace aY:=zD aY;replace bI:=zD bI;replace HB:=zF HB;refine l_ (n:=13) (S:=fun w'=>w'.cell? ⟨dw,0,none⟩=some (.bool af)∧w'.cell? ⟨dw,1,none⟩=some (.string aa)∧w'.cell? ⟨dw,2,none⟩=some (.string aj)∧w'.cell? ⟨dx,0,none⟩=some (.bool aq)∧w'.cell? ⟨dx,1,none⟩=some (.string ak)∧w'.cell? ⟨dx,2,none⟩=some (.string ay)) (ds:=[]) (zb 13 0) (by kernel_rfl) rfl rfl ⟨zc aW 0,zc aW 1,zc aW 2,zc aY 0,zc aY 1,zc aY 2⟩ (fun hHeld=>?_);refine nC iL.AK iL.Ax (fun av bH=>?_);generalize wc.drew=VX at aW aY bI HB hHeld ⊢;refine zU (i:=0) (N:=some 20) (zb 13 1) (a_ av.out (by kernel_rfl)) ?_;refine zU (i:=5) (N:=some 25) (zb 13 33) (a_ av.out (by kernel_rfl)) ?_;refine zV (i:=1) (N:=some 21) (zb 13 35) (bV av.out bH.out (by kernel_rfl)) hHeld ?_;refine zV (i:=2) (N:=some 22) (zb 13 39) (bV av.out bH.out (by kernel_rfl)) hHeld ?_;refine zV (i:=6) (N:=some 26) (zb 13 103) (bV av.out bH.out (by kernel_rfl)) hHeld ?_;refine zV (i:=7) (N:=some 27) (zb 13 231) (bV av.out bH.out (by kernel_rfl)) hHeld ?_;refine lC (σ:=Nat) 1 (zb 13 4095) (fun s_=>[(23,.agg #[.bool t130,.string t131]),(24,.agg #[.bool t132,.string t133]),(28,.agg #[.bool t134,.string t135]),(29,.agg #[.bool t136,.string t137]),(30,.agg #[.bool t138,.string t139]),(5,.pointer (some ⟨s_,0,none⟩))]) (fun s_ w'=>(w'.cell? ⟨dw,0,none⟩=some (.bool af)∧w'.cell? ⟨dw,1,none⟩=some (.string aa)∧w'.cell? ⟨dw,2,none⟩=some (.string aj)∧w'.cell? ⟨dx,0,none⟩=some (.bool aq)∧w'.cell? ⟨dx,1,none⟩=some (.string ak)∧w'.cell? ⟨dx,2,none⟩=some (.string ay))∧(w'.heap[dw]?=some (.cells #[.bool af,.string aa,.string aj] 40 (0,0)))∧(w'.heap[dx]?=some (.cells #[.bool aq,.string ak,.string ay] 40 (0,0)))∧(w'.heap[d_]?=some (.cells #[.bool false,.string ⟨#[]⟩,.string ⟨#[]⟩] 40 (0,0)))∧(w'.heap[s_]?=some (.cells #[.bool false,.string ⟨#[]⟩] 38 (0,0)))∧(w.heap.size≤s_)∧(w.heap.size≤s_)∧(dw≠s_)∧(s_≠dw)∧(dx≠s_)∧(s_≠dx)∧(d_≠s_)∧(s_≠d_)∧(Below w.heap.size w w')) ?_ ?_;rotate_left
    ·intro Xl
     refine lC (σ:=Unit) 2 (zb 13 2047) (fun s_=>[(23,.agg #[.bool t130,.string t131]),(24,.agg #[.bool t132,.string t133]),(28,.agg #[.bool t134,.string t135]),(29,.agg #[.bool t136,.string t137]),(30,.agg #[.bool t138,.string t139])]) (fun s_ w'=>(w'.cell? ⟨dw,0,none⟩=some (.bool af)∧w'.cell? ⟨dw,1,none⟩=some (.string aa)∧w'.cell? ⟨dw,2,none⟩=some (.string aj)∧w'.cell? ⟨dx,0,none⟩=some (.bool aq)∧w'.cell? ⟨dx,1,none⟩=some (.string ak)∧w'.cell? ⟨dx,2,none⟩=some (.string ay))∧(w'.heap[dw]?=some (.cells #[.bool af,.string aa,.string aj] 40 (0,0)))∧(w'.heap[dx]?=some (.cells #[.bool aq,.string ak,.string ay] 40 (0,0)))∧(w'.heap[d_]?=some (.cells #[.bool false,.string ⟨#[]⟩,.string ⟨#[]⟩] 40 (0,0)))∧(Below w.heap.size w w')) ?_ ?_;rotate_left
     ·intro aeD
      refine lC (σ:=Nat) 2 (zb 13 3071) (fun s_=>[(23,.agg #[.bool t130,.string t131]),(24,.agg #[.bool t132,.string t133]),(28,.agg #[.bool t134,.string t135]),(29,.agg #[.bool t136,.string t137]),(5,.pointer (some ⟨s_,0,none⟩))]) (fun s_ w'=>(w'.cell? ⟨dw,0,none⟩=some (.bool af)∧w'.cell? ⟨dw,1,none⟩=some (.string aa)∧w'.cell? ⟨dw,2,none⟩=some (.string aj)∧w'.cell? ⟨dx,0,none⟩=some (.bool aq)∧w'.cell? ⟨dx,1,none⟩=some (.string ak)∧w'.cell? ⟨dx,2,none⟩=some (.string ay))∧(w'.heap[dw]?=some (.cells #[.bool af,.string aa,.string aj] 40 (0,0)))∧(w'.heap[dx]?=some (.cells #[.bool aq,.string ak,.string ay] 40 (0,0)))∧(w'.heap[d_]?=some (.cells #[.bool false,.string ⟨#[]⟩,.string ⟨#[]⟩] 40 (0,0)))∧(w'.heap[s_]?=some (.cells #[.bool false,.string ⟨#[]⟩] 38 (0,0)))∧(w.heap.size≤s_)∧(w.heap.size≤s_)∧(dw≠s_)∧(s_≠dw)∧(dx≠s_)∧(s_≠dx)∧(d_≠s_)∧(s_≠d_)∧(Below w.heap.size w w')) ?_ ?_;rotate_left
      ·intro Xr
       refine lC (σ:=Unit) 3 (zb 13 1023) (fun s_=>[(23,.agg #[.bool t130,.string t131]),(24,.agg #[.bool t132,.string t133]),(28,.agg #[.bool t134,.string t135]),(29,.agg #[.bool t136,.string t137])]) (fun s_ w'=>(w'.cell? ⟨dw,0,none⟩=some (.bool af)∧w'.cell? ⟨dw,1,none⟩=some (.string aa)∧w'.cell? ⟨dw,2,none⟩=some (.string aj)∧w'.cell? ⟨dx,0,none⟩=some (.bool aq)∧w'.cell? ⟨dx,1,none⟩=some (.string ak)∧w'.cell? ⟨dx,2,none⟩=some (.string ay))∧(w'.heap[dw]?=some (.cells #[.bool af,.string aa,.string aj] 40 (0,0)))∧(w'.heap[dx]?=some (.cells #[.bool aq,.string ak,.string ay] 40 (0,0)))∧(w'.heap[d_]?=some (.cells #[.bool false,.string ⟨#[]⟩,.string ⟨#[]⟩] 40 (0,0)))∧(Below w.heap.size w w')) ?_ ?_;rotate_left
       ·intro afd
        refine lC (σ:=Nat) 3 (zb 13 2559) (fun s_=>[(23,.agg #[.bool t130,.string t131]),(24,.agg #[.bool t132,.string t133]),(28,.agg #[.bool t134,.string t135]),(5,.pointer (some ⟨s_,0,none⟩))]) (fun s_ w'=>(w'.cell? ⟨dw,0,none⟩=some (.bool af)∧w'.cell? ⟨dw,1,none⟩=some (.string aa)∧w'.cell? ⟨dw,2,none⟩=some (.string aj)∧w'.cell? ⟨dx,0,none⟩=some (.bool aq)∧w'.cell? ⟨dx,1,none⟩=some (.string ak)∧w'.cell? ⟨dx,2,none⟩=some (.string ay))∧(w'.heap[dw]?=some (.cells #[.bool af,.string aa,.string aj] 40 (0,0)))∧(w'.heap[dx]?=some (.cells #[.bool aq,.string ak,.string ay] 40 (0,0)))∧(w'.heap[d_]?=some (.cells #[.bool false,.string ⟨#[]⟩,.string ⟨#[]⟩] 40 (0,0)))∧(w'.heap[s_]?=some (.cells #[.bool false,.string ⟨#[]⟩] 38 (0,0)))∧(w.heap.size≤s_)∧(w.heap.size≤s_)∧(dw≠s_)∧(s_≠dw)∧(dx≠s_)∧(s_≠dx)∧(d_≠s_)∧(s_≠d_)∧(Below w.heap.size w w')) ?_ ?_;rotate_left
        ·intro XC
         refine lC (σ:=Unit) 4 (zb 13 511) (fun s_=>[(23,.agg #[.bool t130,.string t131]),(24,.agg #[.bool t132,.string t133]),(28,.agg #[.bool t134,.string t135])]) (fun s_ w'=>(w'.cell? ⟨dw,0,none⟩=some (.bool af)∧w'.cell? ⟨dw,1,none⟩=some (.string aa)∧w'.cell? ⟨dw,2,none⟩=some (.string aj)∧w'.cell? ⟨dx,0,none⟩=some (.bool aq)∧w'.cell? ⟨dx,1,none⟩=some (.string ak)∧w'.cell? ⟨dx,2,none⟩=some (.string ay))∧(w'.heap[dw]?=some (.cells #[.bool af,.string aa,.string aj] 40 (0,0)))∧(w'.heap[dx]?=some (.cells #[.bool aq,.string ak,.string ay] 40 (0,0)))∧(w'.heap[d_]?=some (.cells #[.bool false,.string ⟨#[]⟩,.string ⟨#[]⟩] 40 (0,0)))∧(Below w.heap.size w w')) ?_ ?_;rotate_left
         ·intro ahq
          refine lC (σ:=Nat) 4 (zb 13 2303) (fun s_=>[(23,.agg #[.bool t130,.string t131]),(24,.agg #[.bool t132,.string t133]),(5,.pointer (some ⟨s_,0,none⟩))]) (fun s_ w'=>(w'.cell? ⟨dw,0,none⟩=some (.bool af)∧w'.cell? ⟨dw,1,none⟩=some (.string aa)∧w'.cell? ⟨dw,2,none⟩=some (.string aj)∧w'.cell? ⟨dx,0,none⟩=some (.bool aq)∧w'.cell? ⟨dx,1,none⟩=some (.string ak)∧w'.cell? ⟨dx,2,none⟩=some (.string ay))∧(w'.heap[dw]?=some (.cells #[.bool af,.string aa,.string aj] 40 (0,0)))∧(w'.heap[dx]?=some (.cells #[.bool aq,.string ak,.string ay] 40 (0,0)))∧(w'.heap[d_]?=some (.cells #[.bool false,.string ⟨#[]⟩,.string ⟨#[]⟩] 40 (0,0)))∧(w'.heap[s_]?=some (.cells #[.bool false,.string ⟨#[]⟩] 38 (0,0)))∧(w.heap.size≤s_)∧(w.heap.size≤s_)∧(dw≠s_)∧(s_≠dw)∧(dx≠s_)∧(s_≠dx)∧(d_≠s_)∧(s_≠d_)∧(Below w.heap.size w w')) ?_ ?_;rotate_left
          ·intro Yb
           refine lC (σ:=Unit) 5 (zb 13 255) (fun s_=>[(23,.agg #[.bool t130,.string t131]),(24,.agg #[.bool t132,.string t133])]) (fun s_ w'=>(w'.cell? ⟨dw,0,none⟩=some (.bool af)∧w'.cell? ⟨dw,1,none⟩=some (.string aa)∧w'.cell? ⟨dw,2,none⟩=some (.string aj)∧w'.cell? ⟨dx,0,none⟩=some (.bool aq)∧w'.cell? ⟨dx,1,none⟩=some (.string ak)∧w'.cell? ⟨dx,2,none⟩=some (.string ay))∧(w'.heap[dw]?=some (.cells #[.bool af,.string aa,.string aj] 40 (0,0)))∧(w'.heap[dx]?=some (.cells #[.bool aq,.string ak,.string ay] 40 (0,0)))∧(w'.heap[d_]?=some (.cells #[.bool false,.string ⟨#[]⟩,.string ⟨#[]⟩] 40 (0,0)))∧(Below w.heap.size w w')) ?_ ?_;rotate_left
           ·intro alQ
            refine lC (σ:=Nat) 5 (zb 13 2287) (fun s_=>[(23,.agg #[.bool t130,.string t131]),(5,.pointer (some ⟨s_,0,none⟩))]) (fun s_ w'=>(w'.cell? ⟨dw,0,none⟩=some (.bool af)∧w'.cell? ⟨dw,1,none⟩=some (.string aa)∧w'.cell? ⟨dw,2,none⟩=some (.string aj)∧w'.cell? ⟨dx,0,none⟩=some (.bool aq)∧w'.cell? ⟨dx,1,none⟩=some (.string ak)∧w'.cell? ⟨dx,2,none⟩=some (.string ay))∧(w'.heap[dw]?=some (.cells #[.bool af,.string aa,.string aj] 40 (0,0)))∧(w'.heap[dx]?=some (.cells #[.bool aq,.string ak,.string ay] 40 (0,0)))∧(w'.heap[d_]?=some (.cells #[.bool false,.string ⟨#[]⟩,.string ⟨#[]⟩] 40 (0,0)))∧(w'.heap[s_]?=some (.cells #[.bool false,.string ⟨#[]⟩] 38 (0,0)))∧(w.heap.size≤s_)∧(w.heap.size≤s_)∧(dw≠s_)∧(s_≠dw)∧(dx≠s_)∧(s_≠dx)∧(d_≠s_)∧(s_≠d_)∧(Below w.heap.size w w')) ?_ ?_;rotate_left
            ·intro aac
             refine lC (σ:=Unit) 6 (zb 13 239) (fun s_=>[(23,.agg #[.bool t130,.string t131])]) (fun s_ w'=>(w'.cell? ⟨dw,0,none⟩=some (.bool af)∧w'.cell? ⟨dw,1,none⟩=some (.string aa)∧w'.cell? ⟨dw,2,none⟩=some (.string aj)∧w'.cell? ⟨dx,0,none⟩=some (.bool aq)∧w'.cell? ⟨dx,1,none⟩=some (.string ak)∧w'.cell? ⟨dx,2,none⟩=some (.string ay))∧(w'.heap[dw]?=some (.cells #[.bool af,.string aa,.string aj] 40 (0,0)))∧(w'.heap[dx]?=some (.cells #[.bool aq,.string ak,.string ay] 40 (0,0)))∧(w'.heap[d_]?=some (.cells #[.bool false,.string ⟨#[]⟩,.string ⟨#[]⟩] 40 (0,0)))∧(Below w.heap.size w w')) ?_ ?_;rotate_left
             ·intro hJ3
              refine lC (σ:=Nat) 6 (zb 13 2279) (fun s_=>[(5,.pointer (some ⟨s_,0,none⟩))]) (fun s_ w'=>(w'.cell? ⟨dw,0,none⟩=some (.bool af)∧w'.cell? ⟨dw,1,none⟩=some (.string aa)∧w'.cell? ⟨dw,2,none⟩=some (.string aj)∧w'.cell? ⟨dx,0,none⟩=some (.bool aq)∧w'.cell? ⟨dx,1,none⟩=some (.string ak)∧w'.cell? ⟨dx,2,none⟩=some (.string ay))∧(w'.heap[dw]?=some (.cells #[.bool af,.string aa,.string aj] 40 (0,0)))∧(w'.heap[dx]?=some (.cells #[.bool aq,.string ak,.string ay] 40 (0,0)))∧(w'.heap[d_]?=some (.cells #[.bool false,.string ⟨#[]⟩,.string ⟨#[]⟩] 40 (0,0)))∧(w'.heap[s_]?=some (.cells #[.bool false,.string ⟨#[]⟩] 38 (0,0)))∧(w.heap.size≤s_)∧(w.heap.size≤s_)∧(dw≠s_)∧(s_≠dw)∧(dx≠s_)∧(s_≠dx)∧(d_≠s_)∧(s_≠d_)∧(Below w.heap.size w w')) ?_ ?_;rotate_left
              ·intro ao7
               refine rI (i:=3) (j:=11) (Ni:=some 23) (Nj:=some 5) (zb 13 239) (zb 13 2279) rfl rfl rfl rfl (rB av.out (by kernel_rfl)) (by decide) (by decide) (fun K hK=>?_) (fun K hK=>?_)
               ·skip
                refine zJ Tryz.func78 (by kernel_rfl) (lf.calls aq ak ay t130 t131 _ G8.out) fun BD hb=>?_;obtain⟨aW,aY,bI⟩:=bL aW aY bI hb;replace HB:=zS HB hb
                (try clear hb)
                refine hK.out _ _ ⟨zc aW 0,zc aW 1,zc aW 2,zc aY 0,zc aY 1,zc aY 2⟩ (fun hHeld=>?_);clear hK K;refine zW (some 23) ?_;exact zA (hJ3 () _ ⟨hHeld,(zK aW).out,(zK aY).out,(zK bI).out,(zT HB)⟩)
               ·skip
                refine oB ?hg (N:=5) ?hd (cs:=#[.bool false,.string ⟨#[]⟩]) (t:=38) ?hr ?_;(case hd=>rfl);(case hg=>rfl);(case hr=>first|(go_simp;done)|(go_simp;rfl))
                intro eu hg BD ah hb;have dH:=qa (ah);have mm:=zG hg HB;have mo:=zG hg HB;obtain⟨jA,lp⟩:=zQ hg aW;obtain⟨jB,lu⟩:=zQ hg aY;obtain⟨ko,iW⟩:=zQ hg bI;obtain⟨aW,aY,bI⟩:=bL aW aY bI hb;replace HB:=zS HB hb;clear hb ah hg;refine hK.out _ _ ⟨zc aW 0,zc aW 1,zc aW 2,zc aY 0,zc aY 1,zc aY 2⟩ (fun hHeld=>?_);clear hK K;refine zW (some 5) ?_;exact zA (ao7 (eu) _ ⟨hHeld,(zK aW).out,(zK aY).out,(zK bI).out,(zK dH).out,mm.out,mo.out,jA.out,lp.out,jB.out,lu.out,ko.out,iW.out,(zT HB)⟩)
              ·skip
               rintro eu uq ⟨eU,cz,cA,cC,cD,gy,gA,gB,iH,iI,iJ,iz,iA,iB⟩;replace aW:=qa cz;replace aY:=qa cA;replace bI:=qa cC;have dH:=qa cD;have mm:=qa gy;have mo:=qa gA;have jA:=qa gB;have lp:=qa iH;have jB:=qa iI;have lu:=qa iJ;have ko:=qa iz;have iW:=qa iA;replace HB:=qa iB;clear cz cA cC cD gy gA gB iH iI iJ iz iA iB;have hHeld:=eU;refine je (a':=?_) ?_ ?_;rotate_left
               ·simp only[iq,Act.put,List.setIfInBounds_toArray,List.set_cons_zero,List.set_cons_succ]
                rfl
               refine bN (i:=3) (N:=some 23) (zb 13 2287) rfl rfl (bS av.out (by kernel_rfl)) (by decide) (fun K hK=>?_);refine zJ Tryz.func78 (by kernel_rfl) (lf.calls aq ak ay t130 t131 _ G8.out) fun BF hb=>?_;obtain⟨aW,aY,bI,dH⟩:=iF aW aY bI dH hb;replace HB:=zS HB hb
               (try clear hb)
               refine hK.out _ _ ⟨zc aW 0,zc aW 1,zc aW 2,zc aY 0,zc aY 1,zc aY 2⟩ (fun hHeld=>?_);clear hK K;refine zW (some 23) ?_;exact zA (aac (eu) _ ⟨hHeld,(zK aW).out,(zK aY).out,(zK bI).out,(zK dH).out,mm.out,mo.out,jA.out,lp.out,jB.out,lu.out,ko.out,iW.out,(zT HB)⟩)
             ·skip
              rintro _ uq ⟨eU,cz,cA,cC,cD⟩;replace aW:=qa cz;replace aY:=qa cA;replace bI:=qa cC;replace HB:=qa cD;clear cz cA cC cD;have hHeld:=eU;refine je (a':=?_) ?_ ?_;rotate_left
              ·simp only[iq,Act.put,List.setIfInBounds_toArray,List.set_cons_zero,List.set_cons_succ]
               rfl
              refine rI (i:=4) (j:=11) (Ni:=some 24) (Nj:=some 5) (zb 13 255) (zb 13 2287) rfl rfl rfl rfl (rB av.out (by kernel_rfl)) (by decide) (by decide) (fun K hK=>?_) (fun K hK=>?_)
              ·skip
               refine zJ Tryz.func76 (by kernel_rfl) (nU.calls af aa t130 t131 t132 t133 _ Pq.out) fun BF hb=>?_;obtain⟨aW,aY,bI⟩:=bL aW aY bI hb;replace HB:=zS HB hb
               (try clear hb)
               refine hK.out _ _ ⟨zc aW 0,zc aW 1,zc aW 2,zc aY 0,zc aY 1,zc aY 2⟩ (fun hHeld=>?_);clear hK K;refine zW (some 24) ?_;exact zA (alQ () _ ⟨hHeld,(zK aW).out,(zK aY).out,(zK bI).out,(zT HB)⟩)
              ·skip
               refine oB ?hg (N:=5) ?hd (cs:=#[.bool false,.string ⟨#[]⟩]) (t:=38) ?hr ?_;(case hd=>rfl);(case hg=>rfl);(case hr=>first|(go_simp;done)|(go_simp;rfl))
               intro eu hg BF ah hb;have dH:=qa (ah);have mm:=zG hg HB;have mo:=zG hg HB;obtain⟨jA,lp⟩:=zQ hg aW;obtain⟨jB,lu⟩:=zQ hg aY;obtain⟨ko,iW⟩:=zQ hg bI;obtain⟨aW,aY,bI⟩:=bL aW aY bI hb;replace HB:=zS HB hb;clear hb ah hg;refine hK.out _ _ ⟨zc aW 0,zc aW 1,zc aW 2,zc aY 0,zc aY 1,zc aY 2⟩ (fun hHeld=>?_);clear hK K;refine zW (some 5) ?_;exact zA (aac (eu) _ ⟨hHeld,(zK aW).out,(zK aY).out,(zK bI).out,(zK dH).out,mm.out,mo.out,jA.out,lp.out,jB.out,lu.out,ko.out,iW.out,(zT HB)⟩)
            ·skip
             rintro eu BF ⟨eU,cz,cA,cC,cD,gy,gA,gB,iH,iI,iJ,iz,iA,iB⟩;replace aW:=qa cz;replace aY:=qa cA;replace bI:=qa cC;have dH:=qa cD;have mm:=qa gy;have mo:=qa gA;have jA:=qa gB;have lp:=qa iH;have jB:=qa iI;have lu:=qa iJ;have ko:=qa iz;have iW:=qa iA;replace HB:=qa iB;clear cz cA cC cD gy gA gB iH iI iJ iz iA iB;have hHeld:=eU;refine je (a':=?_) ?_ ?_;rotate_left
             ·simp only[iq,Act.put,List.setIfInBounds_toArray,List.set_cons_zero,List.set_cons_succ]
              rfl
             refine bN (i:=4) (N:=some 24) (zb 13 2303) rfl rfl (bS av.out (by kernel_rfl)) (by decide) (fun K hK=>?_);refine zJ Tryz.func76 (by kernel_rfl) (nU.calls af aa t130 t131 t132 t133 _ Pq.out) fun BG hb=>?_;obtain⟨aW,aY,bI,dH⟩:=iF aW aY bI dH hb;replace HB:=zS HB hb
             (try clear hb)
             refine hK.out _ _ ⟨zc aW 0,zc aW 1,zc aW 2,zc aY 0,zc aY 1,zc aY 2⟩ (fun hHeld=>?_);clear hK K;refine zW (some 24) ?_;exact zA (Yb (eu) _ ⟨hHeld,(zK aW).out,(zK aY).out,(zK bI).out,(zK dH).out,mm.out,mo.out,jA.out,lp.out,jB.out,lu.out,ko.out,iW.out,(zT HB)⟩)
           ·skip
            rintro _ BF ⟨eU,cz,cA,cC,cD⟩;replace aW:=qa cz;replace aY:=qa cA;replace bI:=qa cC;replace HB:=qa cD;clear cz cA cC cD;have hHeld:=eU;refine je (a':=?_) ?_ ?_;rotate_left
            ·simp only[iq,Act.put,List.setIfInBounds_toArray,List.set_cons_zero,List.set_cons_succ]
             rfl
            refine rI (i:=8) (j:=11) (Ni:=some 28) (Nj:=some 5) (zb 13 511) (zb 13 2303) rfl rfl rfl rfl (rB av.out (by kernel_rfl)) (by decide) (by decide) (fun K hK=>?_) (fun K hK=>?_)
            ·skip
             refine zJ Tryz.func78 (by kernel_rfl) (lf.calls af aa aj t134 t135 _ Pt.out) fun BG hb=>?_;obtain⟨aW,aY,bI⟩:=bL aW aY bI hb;replace HB:=zS HB hb
             (try clear hb)
             refine hK.out _ _ ⟨zc aW 0,zc aW 1,zc aW 2,zc aY 0,zc aY 1,zc aY 2⟩ (fun hHeld=>?_);clear hK K;refine zW (some 28) ?_;exact zA (ahq () _ ⟨hHeld,(zK aW).out,(zK aY).out,(zK bI).out,(zT HB)⟩)
            ·skip
             refine oB ?hg (N:=5) ?hd (cs:=#[.bool false,.string ⟨#[]⟩]) (t:=38) ?hr ?_;(case hd=>rfl);(case hg=>rfl);(case hr=>first|(go_simp;done)|(go_simp;rfl))
             intro eu hg BG ah hb;have dH:=qa (ah);have mm:=zG hg HB;have mo:=zG hg HB;obtain⟨jA,lp⟩:=zQ hg aW;obtain⟨jB,lu⟩:=zQ hg aY;obtain⟨ko,iW⟩:=zQ hg bI;obtain⟨aW,aY,bI⟩:=bL aW aY bI hb;replace HB:=zS HB hb;clear hb ah hg;refine hK.out _ _ ⟨zc aW 0,zc aW 1,zc aW 2,zc aY 0,zc aY 1,zc aY 2⟩ (fun hHeld=>?_);clear hK K;refine zW (some 5) ?_;exact zA (Yb (eu) _ ⟨hHeld,(zK aW).out,(zK aY).out,(zK bI).out,(zK dH).out,mm.out,mo.out,jA.out,lp.out,jB.out,lu.out,ko.out,iW.out,(zT HB)⟩)
          ·skip
           rintro eu BG ⟨eU,cz,cA,cC,cD,gy,gA,gB,iH,iI,iJ,iz,iA,iB⟩;replace aW:=qa cz;replace aY:=qa cA;replace bI:=qa cC;have dH:=qa cD;have mm:=qa gy;have mo:=qa gA;have jA:=qa gB;have lp:=qa iH;have jB:=qa iI;have lu:=qa iJ;have ko:=qa iz;have iW:=qa iA;replace HB:=qa iB;clear cz cA cC cD gy gA gB iH iI iJ iz iA iB;have hHeld:=eU;refine je (a':=?_) ?_ ?_;rotate_left
           ·simp only[iq,Act.put,List.setIfInBounds_toArray,List.set_cons_zero,List.set_cons_succ]
            rfl
           refine bN (i:=8) (N:=some 28) (zb 13 2559) rfl rfl (bS av.out (by kernel_rfl)) (by decide) (fun K hK=>?_);refine zJ Tryz.func78 (by kernel_rfl) (lf.calls af aa aj t134 t135 _ Pt.out) fun G_ hb=>?_;obtain⟨aW,aY,bI,dH⟩:=iF aW aY bI dH hb;replace HB:=zS HB hb
           (try clear hb)
           refine hK.out _ _ ⟨zc aW 0,zc aW 1,zc aW 2,zc aY 0,zc aY 1,zc aY 2⟩ (fun hHeld=>?_);clear hK K;refine zW (some 28) ?_;exact zA (XC (eu) _ ⟨hHeld,(zK aW).out,(zK aY).out,(zK bI).out,(zK dH).out,mm.out,mo.out,jA.out,lp.out,jB.out,lu.out,ko.out,iW.out,(zT HB)⟩)
         ·skip
          rintro _ BG ⟨eU,cz,cA,cC,cD⟩;replace aW:=qa cz;replace aY:=qa cA;replace bI:=qa cC;replace HB:=qa cD;clear cz cA cC cD;have hHeld:=eU;refine je (a':=?_) ?_ ?_;rotate_left
          ·simp only[iq,Act.put,List.setIfInBounds_toArray,List.set_cons_zero,List.set_cons_succ]
           rfl
          refine rI (i:=9) (j:=11) (Ni:=some 29) (Nj:=some 5) (zb 13 1023) (zb 13 2559) rfl rfl rfl rfl (rB av.out (by kernel_rfl)) (by decide) (by decide) (fun K hK=>?_) (fun K hK=>?_)
          ·skip
           refine zJ Tryz.func76 (by kernel_rfl) (nU.calls aq ak t134 t135 t136 t137 _ Pu.out) fun G_ hb=>?_;obtain⟨aW,aY,bI⟩:=bL aW aY bI hb;replace HB:=zS HB hb
           (try clear hb)
           refine hK.out _ _ ⟨zc aW 0,zc aW 1,zc aW 2,zc aY 0,zc aY 1,zc aY 2⟩ (fun hHeld=>?_);clear hK K;refine zW (some 29) ?_;exact zA (afd () _ ⟨hHeld,(zK aW).out,(zK aY).out,(zK bI).out,(zT HB)⟩)
          ·skip
           refine oB ?hg (N:=5) ?hd (cs:=#[.bool false,.string ⟨#[]⟩]) (t:=38) ?hr ?_;(case hd=>rfl);(case hg=>rfl);(case hr=>first|(go_simp;done)|(go_simp;rfl))
           intro eu hg G_ ah hb;have dH:=qa (ah);have mm:=zG hg HB;have mo:=zG hg HB;obtain⟨jA,lp⟩:=zQ hg aW;obtain⟨jB,lu⟩:=zQ hg aY;obtain⟨ko,iW⟩:=zQ hg bI;obtain⟨aW,aY,bI⟩:=bL aW aY bI hb;replace HB:=zS HB hb;clear hb ah hg;refine hK.out _ _ ⟨zc aW 0,zc aW 1,zc aW 2,zc aY 0,zc aY 1,zc aY 2⟩ (fun hHeld=>?_);clear hK K;refine zW (some 5) ?_;exact zA (XC (eu) _ ⟨hHeld,(zK aW).out,(zK aY).out,(zK bI).out,(zK dH).out,mm.out,mo.out,jA.out,lp.out,jB.out,lu.out,ko.out,iW.out,(zT HB)⟩)
        ·skip
         rintro eu G_ ⟨eU,cz,cA,cC,cD,gy,gA,gB,iH,iI,iJ,iz,iA,iB⟩;replace aW:=qa cz;replace aY:=qa cA;replace bI:=qa cC;have dH:=qa cD;have mm:=qa gy;have mo:=qa gA;have jA:=qa gB;have lp:=qa iH;have jB:=qa iI;have lu:=qa iJ;have ko:=qa iz;have iW:=qa iA;replace HB:=qa iB;clear cz cA cC cD gy gA gB iH iI iJ iz iA iB;have hHeld:=eU;refine je (a':=?_) ?_ ?_;rotate_left
         ·simp only[iq,Act.put,List.setIfInBounds_toArray,List.set_cons_zero,List.set_cons_succ]
          rfl
         refine bN (i:=9) (N:=some 29) (zb 13 3071) rfl rfl (bS av.out (by kernel_rfl)) (by decide) (fun K hK=>?_);refine zJ Tryz.func76 (by kernel_rfl) (nU.calls aq ak t134 t135 t136 t137 _ Pu.out) fun La hb=>?_;obtain⟨aW,aY,bI,dH⟩:=iF aW aY bI dH hb;replace HB:=zS HB hb
         (try clear hb)
         refine hK.out _ _ ⟨zc aW 0,zc aW 1,zc aW 2,zc aY 0,zc aY 1,zc aY 2⟩ (fun hHeld=>?_);clear hK K;refine zW (some 29) ?_;exact zA (Xr (eu) _ ⟨hHeld,(zK aW).out,(zK aY).out,(zK bI).out,(zK dH).out,mm.out,mo.out,jA.out,lp.out,jB.out,lu.out,ko.out,iW.out,(zT HB)⟩)
       ·skip
        rintro _ G_ ⟨eU,cz,cA,cC,cD⟩;replace aW:=qa cz;replace aY:=qa cA;replace bI:=qa cC;replace HB:=qa cD;clear cz cA cC cD;have hHeld:=eU;refine je (a':=?_) ?_ ?_;rotate_left
        ·simp only[iq,Act.put,List.setIfInBounds_toArray,List.set_cons_zero,List.set_cons_succ]
         rfl
        refine rI (i:=10) (j:=11) (Ni:=some 30) (Nj:=some 5) (zb 13 2047) (zb 13 3071) rfl rfl rfl rfl (rB av.out (by kernel_rfl)) (by decide) (by decide) (fun K hK=>?_) (fun K hK=>?_)
        ·skip
         refine zJ Tryz.func89 (by kernel_rfl) (wA.calls t132 t133 t136 t137 t138 t139 _ Pv.out) fun La hb=>?_;obtain⟨aW,aY,bI⟩:=bL aW aY bI hb;replace HB:=zS HB hb
         (try clear hb)
         refine hK.out _ _ ⟨zc aW 0,zc aW 1,zc aW 2,zc aY 0,zc aY 1,zc aY 2⟩ (fun hHeld=>?_);clear hK K;refine zW (some 30) ?_;exact zA (aeD () _ ⟨hHeld,(zK aW).out,(zK aY).out,(zK bI).out,(zT HB)⟩)
        ·skip
         refine oB ?hg (N:=5) ?hd (cs:=#[.bool false,.string ⟨#[]⟩]) (t:=38) ?hr ?_;(case hd=>rfl);(case hg=>rfl);(case hr=>first|(go_simp;done)|(go_simp;rfl))
         intro eu hg La ah hb;have dH:=qa (ah);have mm:=zG hg HB;have mo:=zG hg HB;obtain⟨jA,lp⟩:=zQ hg aW;obtain⟨jB,lu⟩:=zQ hg aY;obtain⟨ko,iW⟩:=zQ hg bI;obtain⟨aW,aY,bI⟩:=bL aW aY bI hb;replace HB:=zS HB hb;clear hb ah hg;refine hK.out _ _ ⟨zc aW 0,zc aW 1,zc aW 2,zc aY 0,zc aY 1,zc aY 2⟩ (fun hHeld=>?_);clear hK K;refine zW (some 5) ?_;exact zA (Xr (eu) _ ⟨hHeld,(zK aW).out,(zK aY).out,(zK bI).out,(zK dH).out,mm.out,mo.out,jA.out,lp.out,jB.out,lu.out,ko.out,iW.out,(zT HB)⟩)
      ·skip
       rintro eu La ⟨eU,cz,cA,cC,cD,gy,gA,gB,iH,iI,iJ,iz,iA,iB⟩;replace aW:=qa cz;replace aY:=qa cA;replace bI:=qa cC;have dH:=qa cD;have mm:=qa gy;have mo:=qa gA;have jA:=qa gB;have lp:=qa iH;have jB:=qa iI;have lu:=qa iJ;have ko:=qa iz;have iW:=qa iA;replace HB:=qa iB;clear cz cA cC cD gy gA gB iH iI iJ iz iA iB;have hHeld:=eU;refine je (a':=?_) ?_ ?_;rotate_left
       ·simp only[iq,Act.put,List.setIfInBounds_toArray,List.set_cons_zero,List.set_cons_succ]
        rfl
       refine bN (i:=10) (N:=some 30) (zb 13 4095) rfl rfl (bS av.out (by kernel_rfl)) (by decide) (fun K hK=>?_);refine zJ Tryz.func89 (by kernel_rfl) (wA.calls t132 t133 t136 t137 t138 t139 _ Pv.out) fun vY hb=>?_;obtain⟨aW,aY,bI,dH⟩:=iF aW aY bI dH hb;replace HB:=zS HB hb
       (try clear hb)
       refine hK.out _ _ ⟨zc aW 0,zc aW 1,zc aW 2,zc aY 0,zc aY 1,zc aY 2⟩ (fun hHeld=>?_);clear hK K;refine zW (some 30) ?_;exact zA (Xl (eu) _ ⟨hHeld,(zK aW).out,(zK aY).out,(zK bI).out,(zK dH).out,mm.out,mo.out,jA.out,lp.out,jB.out,lu.out,ko.out,iW.out,(zT HB)⟩)
     ·skip
      rintro _ La ⟨eU,cz,cA,cC,cD⟩;replace aW:=qa cz;replace aY:=qa cA;replace bI:=qa cC;replace HB:=qa cD;clear cz cA cC cD;have hHeld:=eU;refine je (a':=?_) ?_ ?_;rotate_left
      ·simp only[iq,Act.put,List.setIfInBounds_toArray,List.set_cons_zero,List.set_cons_succ]
       rfl
      refine bN (i:=11) (N:=some 5) (zb 13 4095) rfl rfl (bS av.out (by kernel_rfl)) (by decide) (fun K hK=>?_);refine oB ?hg (N:=5) ?hd (cs:=#[.bool false,.string ⟨#[]⟩]) (t:=38) ?hr ?_;(case hd=>rfl);(case hg=>rfl);(case hr=>first|(go_simp;done)|(go_simp;rfl))
      intro eu hg vY ah hb;have dH:=qa (ah);have mm:=zG hg HB;have mo:=zG hg HB;obtain⟨jA,lp⟩:=zQ hg aW;obtain⟨jB,lu⟩:=zQ hg aY;obtain⟨ko,iW⟩:=zQ hg bI;obtain⟨aW,aY,bI⟩:=bL aW aY bI hb;replace HB:=zS HB hb;clear hb ah hg;refine hK.out _ _ ⟨zc aW 0,zc aW 1,zc aW 2,zc aY 0,zc aY 1,zc aY 2⟩ (fun hHeld=>?_);clear hK K;refine zW (some 5) ?_;exact zA (Xl (eu) _ ⟨hHeld,(zK aW).out,(zK aY).out,(zK bI).out,(zK dH).out,mm.out,mo.out,jA.out,lp.out,jB.out,lu.out,ko.out,iW.out,(zT HB)⟩)
    rintro eu vY ⟨eU,cz,cA,cC,cD,gy,gA,gB,iH,iI,iJ,iz,iA,iB⟩;replace aW:=qa cz;replace aY:=qa cA;replace bI:=qa cC;have dH:=qa cD;have mm:=qa gy;have mo:=qa gA;have jA:=qa gB;have lp:=qa iH;have jB:=qa iI;have lu:=qa iJ;have ko:=qa iz;have iW:=qa iA;replace HB:=qa iB;clear cz cA cC cD gy gA gB iH iI iJ iz iA iB;have hHeld:=eU;refine je (a':=?_) ?_ ?_;rotate_left
    ·simp only[iq,Act.put,List.setIfInBounds_toArray,List.set_cons_zero,List.set_cons_succ]
     rfl
    refine bN (i:=12) (N:=none) (zb 13 8191) rfl rfl (bS av.out (by kernel_rfl)) (by decide) (fun K hK=>?_);have azC:vY.cell? ⟨eu,0,none⟩=some (.bool false):=zc dH 0;have awN:=cF dH.out 0;have aqQ:=jA.out;have aqR:=jB.out;have aqS:=ko.out;have aqT:=lp.out;have aqU:=lu.out;have aqV:=iW.out;have azD:vY.cell? ⟨eu,1,none⟩=some (.string ⟨#[]⟩):=zc dH 1;have awO:=cF dH.out 1;have aqW:=jA.out;have aqX:=jB.out;have aqY:=ko.out;have aqZ:=lp.out;have aq0:=lu.out;have aq1:=iW.out;refine rC (w1:=?_) (by rfl) rfl ?_ ?_;rotate_left
    ·go_simp
     rfl
    refine hK.out _ _ ⟨((cell_far (p:=⟨eu,_,none⟩) jA.out _).trans (((cell_far (p:=⟨eu,_,none⟩) jA.out _).trans (hHeld.1)))),((cell_far (p:=⟨eu,_,none⟩) jA.out _).trans (((cell_far (p:=⟨eu,_,none⟩) jA.out _).trans (hHeld.2.1)))),((cell_far (p:=⟨eu,_,none⟩) jA.out _).trans (((cell_far (p:=⟨eu,_,none⟩) jA.out _).trans (hHeld.2.2.1)))),((cell_far (p:=⟨eu,_,none⟩) jB.out _).trans (((cell_far (p:=⟨eu,_,none⟩) jB.out _).trans (hHeld.2.2.2.1)))),((cell_far (p:=⟨eu,_,none⟩) jB.out _).trans (((cell_far (p:=⟨eu,_,none⟩) jB.out _).trans (hHeld.2.2.2.2.1)))),((cell_far (p:=⟨eu,_,none⟩) jB.out _).trans (((cell_far (p:=⟨eu,_,none⟩) jB.out _).trans (hHeld.2.2.2.2.2))))⟩ (fun hHeld=>?_);clear hK K;refine mj (nE av.out (by kernel_rfl)) ?_;try go_wp2
    have Et:aM (((vY.setCell ⟨eu,0,none⟩ (.bool t138)).setCell ⟨eu,1,none⟩ (.string t139)).heap[dw]?=some (.cells #[.bool af,.string aa,.string aj] 40 (0,0))):=zK aW;have jy:aM (((vY.setCell ⟨eu,0,none⟩ (.bool t138)).setCell ⟨eu,1,none⟩ (.string t139)).heap[dx]?=some (.cells #[.bool aq,.string ak,.string ay] 40 (0,0))):=zK aY;have j8:aM (((vY.setCell ⟨eu,0,none⟩ (.bool t138)).setCell ⟨eu,1,none⟩ (.string t139)).heap[d_]?=some (.cells #[.bool false,.string ⟨#[]⟩,.string ⟨#[]⟩] 40 (0,0))):=zK bI;have pT:aM (((vY.setCell ⟨eu,0,none⟩ (.bool t138)).setCell ⟨eu,1,none⟩ (.string t139)).heap[eu]?=some (.cells #[.bool t138,.string t139] 38 (0,0))):=⟨by (with_reducible repeat(first|refine aI ?_ _|refine aH ?_|refine aF ?_ _));refine zP (cs:=#[.bool t138,.string ⟨#[]⟩]) ?_ 1 _;(with_reducible repeat(first|refine aI ?_ _|refine aH ?_|refine aF ?_ _));refine zP (cs:=#[.bool false,.string ⟨#[]⟩]) ?_ 0 _;(with_reducible repeat(first|refine aI ?_ _|refine aH ?_|refine aF ?_ _));exact dH.out⟩;have td:aM (Below w.heap.size w ((vY.setCell ⟨eu,0,none⟩ (.bool t138)).setCell ⟨eu,1,none⟩ (.string t139))):=⟨zT HB⟩
    (try clear aW)
    (try clear aY)
    (try clear bI)
    (try clear dH)
    (try clear HB)
    generalize ((vY.setCell ⟨eu,0,none⟩ (.bool t138)).setCell ⟨eu,1,none⟩ (.string t139))=Lb at Et jy j8 pT td ⊢;have aW:=Et;have aY:=jy;have bI:=j8;have dH:=pT;have HB:=td;clear Et jy j8 pT td;replace aW:=zD aW;replace aY:=zD aY;replace bI:=zD bI;replace dH:=zD dH;replace HB:=zF HB;refine l_ (n:=8) (S:=fun w'=>w'.cell? ⟨eu,0,none⟩=some (.bool t138)∧w'.cell? ⟨eu,1,none⟩=some (.string t139)∧w'.cell? ⟨dw,0,none⟩=some (.bool af)∧w'.cell? ⟨dw,1,none⟩=some (.string aa)∧w'.cell? ⟨dw,2,none⟩=some (.string aj)∧w'.cell? ⟨dx,0,none⟩=some (.bool aq)∧w'.cell? ⟨dx,1,none⟩=some (.string ak)∧w'.cell? ⟨dx,2,none⟩=some (.string ay)) (ds:=[]) (zb 8 0) (by kernel_rfl) rfl rfl ⟨zc dH 0,zc dH 1,zc aW 0,zc aW 1,zc aW 2,zc aY 0,zc aY 1,zc aY 2⟩ (fun hHeld=>?_);refine nC iL.DA iL.Db (fun av bH=>?_);generalize Lb.drew=BH at aW aY bI dH HB hHeld ⊢;refine zV (i:=0) (N:=some 31) (zb 8 1) (bV av.out bH.out (by kernel_rfl)) hHeld ?_;refine zV (i:=1) (N:=some 32) (zb 8 3) (bV av.out bH.out (by kernel_rfl)) hHeld ?_;refine zV (i:=3) (N:=some 34) (zb 8 11) (bV av.out bH.out (by kernel_rfl)) hHeld ?_;refine bN (i:=2) (N:=some 33) (zb 8 15) rfl rfl (bS av.out (by kernel_rfl)) (by decide) (fun K hK=>?_);refine zJ Tryz.func78 (by kernel_rfl) (lf.calls af aa aj t141 t142 _ G9.out) fun za hb=>?_;obtain⟨aW,aY,bI,dH⟩:=iF aW aY bI dH hb;replace HB:=zS HB hb
    (try clear hb)
    refine hK.out _ _ ⟨zc dH 0,zc dH 1,zc aW 0,zc aW 1,zc aW 2,zc aY 0,zc aY 1,zc aY 2⟩ (fun hHeld=>?_);clear hK K;refine zW (some 33) ?_;refine bN (i:=4) (N:=some 35) (zb 8 31) rfl rfl (bS av.out (by kernel_rfl)) (by decide) (fun K hK=>?_);refine zJ Tryz.func78 (by kernel_rfl) (lf.calls aq ak ay t143 t144 _ uo.out) fun BI hb=>?_;obtain⟨aW,aY,bI,dH⟩:=iF aW aY bI dH hb;replace HB:=zS HB hb
    (try clear hb)
    refine hK.out _ _ ⟨zc dH 0,zc dH 1,zc aW 0,zc aW 1,zc aW 2,zc aY 0,zc aY 1,zc aY 2⟩ (fun hHeld=>?_);clear hK K;refine zW (some 35) ?_;refine bN (i:=5) (N:=some 36) (zb 8 63) rfl rfl (bS av.out (by kernel_rfl)) (by decide) (fun K hK=>?_);refine zJ Tryz.func76 (by kernel_rfl) (nU.calls t141 t142 t143 t144 t145 t146 _ K_.out) fun BJ hb=>?_;obtain⟨aW,aY,bI,dH⟩:=iF aW aY bI dH hb;replace HB:=zS HB hb
    (try clear hb)
    refine hK.out _ _ ⟨zc dH 0,zc dH 1,zc aW 0,zc aW 1,zc aW 2,zc aY 0,zc aY 1,zc aY 2⟩ (fun hHeld=>?_);clear hK K;refine zW (some 36) ?_;refine bN (i:=6) (N:=some 37) (zb 8 127) rfl rfl (bS av.out (by kernel_rfl)) (by decide) (fun K hK=>?_);refine zJ Tryz.func77 (by kernel_rfl) (xz.calls t138 t139 t145 t146 t147 t148 t149 _ BC.out) fun rX hb=>?_;obtain⟨aW,aY,bI,dH⟩:=iF aW aY bI dH hb;replace HB:=zS HB hb
    (try clear hb)
    refine hK.out _ _ ⟨zc dH 0,zc dH 1,zc aW 0,zc aW 1,zc aW 2,zc aY 0,zc aY 1,zc aY 2⟩ (fun hHeld=>?_);clear hK K;refine zW (some 37) ?_;refine bN (i:=7) (N:=none) (zb 8 255) rfl rfl (bS av.out (by kernel_rfl)) (by decide) (fun K hK=>?_);have adg:rX.cell? ⟨d_,0,none⟩=some (.bool false):=zc bI 0;have abf:=cF bI.out 0;have YL:=pZ.out;have ahr:=q9.out;have aq2:=iW.out;have YM:=EW.out;have ahs:=Hz.out;have aq3:=ko.out;have ao8:rX.cell? ⟨d_,1,none⟩=some (.string ⟨#[]⟩):=zc bI 1;have alR:=cF bI.out 1;have aht:=pZ.out;have ahu:=q9.out;have aq4:=iW.out;have ahv:=EW.out;have ahw:=Hz.out;have aq5:=ko.out;have azE:rX.cell? ⟨d_,2,none⟩=some (.string ⟨#[]⟩):=zc bI 2;have awP:=cF bI.out 2;have aq6:=pZ.out;have aq7:=q9.out;have aq8:=iW.out;have aq9:=EW.out;have aq_:=Hz.out;have aq':=ko.out;refine rC (w1:=?_) (by rfl) rfl ?_ ?_;rotate_left
    ·go_simp
     rfl
    refine hK.out _ _ ⟨((cell_far (p:=⟨d_,_,none⟩) iW.out _).trans (((cell_far (p:=⟨d_,_,none⟩) iW.out _).trans (((cell_far (p:=⟨d_,_,none⟩) iW.out _).trans (hHeld.1)))))),((cell_far (p:=⟨d_,_,none⟩) iW.out _).trans (((cell_far (p:=⟨d_,_,none⟩) iW.out _).trans (((cell_far (p:=⟨d_,_,none⟩) iW.out _).trans (hHeld.2.1)))))),((cell_far (p:=⟨d_,_,none⟩) pZ.out _).trans (((cell_far (p:=⟨d_,_,none⟩) pZ.out _).trans (((cell_far (p:=⟨d_,_,none⟩) pZ.out _).trans (hHeld.2.2.1)))))),((cell_far (p:=⟨d_,_,none⟩) pZ.out _).trans (((cell_far (p:=⟨d_,_,none⟩) pZ.out _).trans (((cell_far (p:=⟨d_,_,none⟩) pZ.out _).trans (hHeld.2.2.2.1)))))),((cell_far (p:=⟨d_,_,none⟩) pZ.out _).trans (((cell_far (p:=⟨d_,_,none⟩) pZ.out _).trans (((cell_far (p:=⟨d_,_,none⟩) pZ.out _).trans (hHeld.2.2.2.2.1)))))),((cell_far (p:=⟨d_,_,none⟩) q9.out _).trans (((cell_far (p:=⟨d_,_,none⟩) q9.out _).trans (((cell_far (p:=⟨d_,_,none⟩) q9.out _).trans (hHeld.2.2.2.2.2.1)))))),((cell_far (p:=⟨d_,_,none⟩) q9.out _).trans (((cell_far (p:=⟨d_,_,none⟩) q9.out _).trans (((cell_far (p:=⟨d_,_,none⟩) q9.out _).trans (hHeld.2.2.2.2.2.2.1)))))),((cell_far (p:=⟨d_,_,none⟩) q9.out _).trans (((cell_far (p:=⟨d_,_,none⟩) q9.out _).trans (((cell_far (p:=⟨d_,_,none⟩) q9.out _).trans (hHeld.2.2.2.2.2.2.2))))))⟩ (fun hHeld=>?_);clear hK K;refine mj (nE av.out (by kernel_rfl)) ?_;try go_wp2
    refine bodyPost_ret (results_cell_row rfl _ _ d_ 40 #[.bool t147,.string t148,.string t149] (0,0) _ rfl (by (with_reducible repeat(first|refine aI ?_ _|refine aH ?_|refine aF ?_ _));refine zP (cs:=#[.bool t147,.string t148,.string ⟨#[]⟩]) ?_ 2 _;(with_reducible repeat(first|refine aI ?_ _|refine aH ?_|refine aF ?_ _));refine zP (cs:=#[.bool t147,.string ⟨#[]⟩,.string ⟨#[]⟩]) ?_ 1 _;(with_reducible repeat(first|refine aI ?_ _|refine aH ?_|refine aF ?_ _));refine zP (cs:=#[.bool false,.string ⟨#[]⟩,.string ⟨#[]⟩]) ?_ 0 _;(with_reducible repeat(first|refine aI ?_ _|refine aH ?_|refine aF ?_ _));exact bI.out) Tryz.underlying40 rfl (by kernel_rfl)) rfl ?_;exact⟨zH,zT HB⟩
end Go.Proofs.aC.R
