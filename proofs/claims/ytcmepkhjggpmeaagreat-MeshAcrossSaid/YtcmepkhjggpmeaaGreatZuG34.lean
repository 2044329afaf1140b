import Derived.Test.YtcmepkhjggpmeaaGreatZuG45
set_option linter.all false
set_option maxRecDepth 100000
set_option maxHeartbeats 8000000
namespace Go.Proofs.aF.R
open Go.RowKit Go.Proofs.aF.Z Go.Proofs.aD.aY Go.Proofs.aD.bO Go.Proofs.aD.bT
attribute [local go_sem] ct cu cA cC ck cm cw cz
def jW.j0:Nat->Bool->Bool->ByteArray->ByteArray->Bool->ByteArray->ByteArray->Option (Bool × ByteArray × ByteArray)
 | 0,_,_,_,_,_,_,_=>none
 | k+1,x12,Sg,Sh,aiP,Si,Sj,aiQ=>if x12=true then ((oa.f Sg Sh Si Sj).bind fun aa9=>(some (aa9.1,aa9.2,(⟨#[1]⟩:ByteArray)))) else ((oa.f Sg Sh Si Sj).bind fun aa_=>((kS.f Sg Sh aiP).bind fun aa'=>((kS.f Si Sj aiQ).bind fun aba=>((oa.f aa'.1 aa'.2 aba.1 aba.2).bind fun abb=>((yh.f aa_.1 aa_.2 abb.1 abb.2).bind fun TL=>(some (TL.1,TL.2.1,TL.2.2)))))))
def jW.f (k:Nat) (af:Bool) (aa aj:ByteArray) (aq:Bool) (ak ay:ByteArray):Option (Bool × ByteArray × ByteArray):=if aj.toList=([1]:List UInt8) then (jW.j0 k (ay.toList==([1]:List UInt8)) af aa aj aq ak ay) else (jW.j0 k false af aa aj aq ak ay)
def jW.T3:Bool × List (List Nat × List Nat):=(true,[([],[]),([0],[0]),([],[]),([2],[2]),([1,3],[1,3]),([],[]),([5,4],[5]),([],[]),([7,6],[7]),([6,8,8],[6,8]),([4,9,9],[4,9]),([10,10,0,1,2,3,4,5,6,7,8,9,10],[10])])
def jW.B3:List Nat:=[0,1,0,4,15,0,63,0,255,511,1023,2047]
theorem jW.B5:gR .any (opsOf Tryz.f117 3)=jW.T3:=by kernel_rfl
theorem jW.BO:nI jW.T3.2 jW.B3=true:=by kernel_rfl
theorem jW.calls (k:Nat) (af:Bool) (aa aj:ByteArray) (aq:Bool) (ak ay:ByteArray) (r1:Bool) (r2 r3:ByteArray) (w:World) (h:jW.f k af aa aj aq ak ay=some (r1,r2,r3)) :
  Calls Tryz.prog 117 #[.agg #[.bool af,.string aa,.string aj],.agg #[.bool aq,.string ak,.string ay]] w fun e w'=>e = .returned (.agg #[.bool r1,.string r2,.string r3])/\Below w.heap.size w w':=by
 have iL:=Tryz.underlying40;have zk:=Tryz.underlying38;have wK:=xA;have t_:=xB;have hf2:=xC;have hf3:=xD;have HB:=qa (Below.refl w.heap.size w);unfold jW.f at h;have H:=h;clear h;have nX:=qa H;clear H;go_enter Tryz.func117,Tryz.ntmps117;go_upto_region 1 with (first|((with_reducible refine aV (N:=2) rfl ?_);refine zY 2 #[.bool af,.string aa,.string aj] 40 ?_;intro N5 hg w4 ah hb;have eR:=qa (ah);have axE:=zG hg HB;have axF:=zG hg HB;replace HB:=zS HB hb;clear hb ah hg)|((with_reducible refine aV (N:=3) rfl ?_);refine zY 3 #[.bool aq,.string ak,.string ay] 40 ?_;intro N6 hg w5 ah hb;have fR:=qa (ah);have axG:=zG hg HB;have axH:=zG hg HB;obtain⟨Qw,Qx⟩:=zQ hg eR;replace eR:=zB eR hb;replace HB:=zS HB hb;clear hb ah hg)|((with_reducible refine aV (N:=4) rfl ?_);refine zY 4 #[.bool false,.string ⟨#[]⟩,.string ⟨#[]⟩] 40 ?_;intro k6 hg w6 ah hb;have j4:=qa (ah);have axI:=zG hg HB;have axJ:=zG hg HB;obtain⟨qP,Fq⟩:=zQ hg eR;obtain⟨sF,IJ⟩:=zQ hg fR;obtain⟨eR,fR⟩:=eX eR fR hb;replace HB:=zS HB hb;clear hb ah hg))
 (try simp only[Act.put,List.setIfInBounds_toArray,List.set_cons_zero,List.set_cons_succ])
 go_cut [12] (fun v12 wc=>∃ (kq:Nat) (N7:Bool),v12 = .bool N7/\aO (jW.j0 kq N7 af aa aj aq ak ay=some (r1,r2,r3))/\aO (kq<=k)/\aO (wc.heap[N5]?=some (.cells #[.bool af,.string aa,.string aj] 40 (0,0)))/\aO (wc.heap[N6]?=some (.cells #[.bool aq,.string ak,.string ay] 40 (0,0)))/\aO (wc.heap[k6]?=some (.cells #[.bool false,.string ⟨#[]⟩,.string ⟨#[]⟩] 40 (0,0)))/\aO (Below w.heap.size w wc))
 case first =>
  have H:=nX.out;clear nX;by_cases c7:aj.toList=([1]:List UInt8)
  ·rw[if_pos c7]at H
   have qE:=beq_iff_eq.mpr c7;have B8:=bne_eq_false_iff_eq.mpr c7;clear c7
   (first|rw[qE]|(simp only[dB,dD];rw[qE])|skip)
   have H':=qa H;clear H;have wo:=Qw.out;have wu:=Qx.out;have U4:=qP.out;have U5:=Fq.out;obtain⟨Sa,Sb,Sc,Sd,Se,Sf⟩:=z3 eR;have TB:=sF.out;have TC:=IJ.out;obtain⟨I3,I4,I5,I6,I7,I8⟩:=z3 fR;go_wp2
   go_meet
   case rel=>exact⟨_,((ay.toList==([1]:List UInt8))),zR,H',zL,zK eR,zK fR,zK j4,⟨zT HB⟩⟩
  ·rw[if_neg c7]at H
   have qE:=beq_eq_false_iff_ne.mpr c7;have B8:=bne_iff_ne.mpr c7
   (first|rw[qE]|(simp only[dB,dD];rw[qE])|skip)
   have H':=qa H;clear H;have Gv:=Qw.out;have Gw:=Qx.out;have DV:=qP.out;have DW:=Fq.out;obtain⟨FX,FY,FZ,F0,F2,F3⟩:=z3 eR;go_wp2
   go_meet
   case rel=>exact⟨_,(false),zR,H',zL,zK eR,zK fR,zK j4,⟨zT HB⟩⟩
 case rest =>
  clear nX;try clear c1;try clear p2;try clear c7;try clear qE;try clear B8;try clear c8;try clear c9;try clear c11;try clear c13;try clear c14;try clear Sa;try clear Sb;try clear Sc;try clear I3;try clear I4;try clear I5;try clear FX;try clear FY;try clear FZ;try clear Sd;try clear Se;try clear Sf;try clear I6;try clear I7;try clear I8;try clear F0;try clear F2;try clear F3
  obtain⟨kq,N7,rfl,HA,qJ,eR,fR,j4,HB⟩:=hcut;cases kq with
  | zero=>exact absurd HA.out (by simp[jW.j0])
  | succ Ih =>
   have H:=HA.out;clear HA;simp only[jW.j0]at H;by_cases c16:N7=true
   ·subst c16
    rw[if_pos rfl]at H
    obtain⟨⟨t165,t166⟩,Ll,H⟩:=zo H;try dsimp only at H
    simp only[Option.some.injEq,Prod.mk.injEq]at H;obtain⟨rfl,rfl,rfl⟩:=H;have JT:=Qw.out;have JU:=Qx.out;have aa4:=qP.out;have aa5:=Fq.out;obtain⟨F4,F5,F6,F7,F8,F9⟩:=z3 eR;have TD:=sF.out;have TE:=IJ.out;obtain⟨MH,MI,MJ,MK,ML,MM⟩:=z3 fR;go_wp2_with (first|((with_reducible refine cW (f:=70) rfl ?_);refine zO Tryz.func70 qk (oa.calls af aa aq ak t165 t166 _ Ll.out) fun Ii hb=>?_;obtain⟨eR,fR,j4⟩:=bC eR fR j4 hb;replace HB:=zS HB hb;(try clear hb);obtain⟨aiu,aiv,aiw,aix,aiy,aiz⟩:=z3 j4))
    refine bodyPost_ret (results_cell_row rfl _ _ k6 40 #[.bool t165,.string t166,.string (⟨#[1]⟩:ByteArray)] (0,0) _ rfl (Kx j4) Tryz.underlying40 rfl qk) rfl ?_;exact⟨zH,zT HB⟩
   ·replace c16:=Bool.eq_false_iff.mpr c16
    subst c16;rw[if_neg zn]at H
    obtain⟨⟨t167,t168⟩,Ij,H⟩:=zo H;try dsimp only at H
    obtain⟨⟨t169,t170⟩,Pz,H⟩:=zo H;try dsimp only at H
    obtain⟨⟨t171,t172⟩,PA,H⟩:=zo H;try dsimp only at H
    obtain⟨⟨t173,t174⟩,PB,H⟩:=zo H;try dsimp only at H
    obtain⟨⟨t175,t176,t177⟩,PC,H⟩:=zo H;try dsimp only at H
    simp only[Option.some.injEq,Prod.mk.injEq]at H;obtain⟨rfl,rfl,rfl⟩:=H;try go_wp2
    replace eR:=zD eR;replace fR:=zD fR;replace j4:=zD j4;replace HB:=zF HB;refine l9 (n:=12) (S:=fun w'=>w'.cell? ⟨N5,0,none⟩=some (.bool af)/\w'.cell? ⟨N5,1,none⟩=some (.string aa)/\w'.cell? ⟨N5,2,none⟩=some (.string aj)/\w'.cell? ⟨N6,0,none⟩=some (.bool aq)/\w'.cell? ⟨N6,1,none⟩=some (.string ak)/\w'.cell? ⟨N6,2,none⟩=some (.string ay)) (ds:=[]) (zb 12 0) qk rfl rfl ⟨zc eR 0,zc eR 1,zc eR 2,zc fR 0,zc fR 1,zc fR 2⟩ (fun hHeld=>?_);refine nD jW.B5 jW.BO (fun aA bJ=>?_);generalize wc.drew=PF at eR fR j4 HB hHeld ⊢;refine zU (i:=0) (N:=some 19) (zb 12 1) (bf aA.out qk) ?_;refine zU (i:=2) (N:=some 21) (zb 12 5) (bf aA.out qk) ?_;refine zV (i:=1) (N:=some 20) (zb 12 7) (cH aA.out bJ.out qk) hHeld ?_;refine zV (i:=3) (N:=some 22) (zb 12 15) (cH aA.out bJ.out qk) hHeld ?_;refine zV (i:=5) (N:=some 24) (zb 12 47) (cH aA.out bJ.out qk) hHeld ?_;refine zV (i:=7) (N:=some 26) (zb 12 175) (cH aA.out bJ.out qk) hHeld ?_;refine bH (i:=4) (N:=some 23) (zb 12 191) rfl rfl (bL aA.out qk) qd (fun K hK=>?_);refine zJ Tryz.func70 qk (oa.calls af aa aq ak t167 t168 _ Ij.out) fun w31 hb=>?_;obtain⟨eR,fR,j4⟩:=bC eR fR j4 hb;replace HB:=zS HB hb
    (try clear hb)
    refine hK.out _ _ ⟨zc eR 0,zc eR 1,zc eR 2,zc fR 0,zc fR 1,zc fR 2⟩ (fun hHeld=>?_);clear hK K;refine zW (some 23) ?_;refine bH (i:=6) (N:=some 25) (zb 12 255) rfl rfl (bL aA.out qk) qd (fun K hK=>?_);refine zJ Tryz.func71 qk (kS.calls af aa aj t169 t170 _ Pz.out) fun w32 hb=>?_;obtain⟨eR,fR,j4⟩:=bC eR fR j4 hb;replace HB:=zS HB hb
    (try clear hb)
    refine hK.out _ _ ⟨zc eR 0,zc eR 1,zc eR 2,zc fR 0,zc fR 1,zc fR 2⟩ (fun hHeld=>?_);clear hK K;refine zW (some 25) ?_;refine bH (i:=8) (N:=some 27) (zb 12 511) rfl rfl (bL aA.out qk) qd (fun K hK=>?_);refine zJ Tryz.func71 qk (kS.calls aq ak ay t171 t172 _ PA.out) fun PG hb=>?_;obtain⟨eR,fR,j4⟩:=bC eR fR j4 hb;replace HB:=zS HB hb
    (try clear hb)
    refine hK.out _ _ ⟨zc eR 0,zc eR 1,zc eR 2,zc fR 0,zc fR 1,zc fR 2⟩ (fun hHeld=>?_);clear hK K;refine zW (some 27) ?_;refine bH (i:=9) (N:=some 28) (zb 12 1023) rfl rfl (bL aA.out qk) qd (fun K hK=>?_);refine zJ Tryz.func70 qk (oa.calls t169 t170 t171 t172 t173 t174 _ PB.out) fun PE hb=>?_;obtain⟨eR,fR,j4⟩:=bC eR fR j4 hb;replace HB:=zS HB hb
    (try clear hb)
    refine hK.out _ _ ⟨zc eR 0,zc eR 1,zc eR 2,zc fR 0,zc fR 1,zc fR 2⟩ (fun hHeld=>?_);clear hK K;refine zW (some 28) ?_;refine bH (i:=10) (N:=some 29) (zb 12 2047) rfl rfl (bL aA.out qk) qd (fun K hK=>?_);refine zJ Tryz.func72 qk (yh.calls t167 t168 t173 t174 t175 t176 t177 _ PC.out) fun Aw hb=>?_;obtain⟨eR,fR,j4⟩:=bC eR fR j4 hb;replace HB:=zS HB hb
    (try clear hb)
    refine hK.out _ _ ⟨zc eR 0,zc eR 1,zc eR 2,zc fR 0,zc fR 1,zc fR 2⟩ (fun hHeld=>?_);clear hK K;refine zW (some 29) ?_;refine bH (i:=11) (N:=none) (zb 12 4095) rfl rfl (bL aA.out qk) qd (fun K hK=>?_);have aAW:Aw.cell? ⟨k6,0,none⟩=some (.bool false):=zc j4 0;have axK:=bU j4.out 0;have asZ:=qP.out;have as0:=sF.out;have as1:=Fq.out;have as2:=IJ.out;have aqC:Aw.cell? ⟨k6,1,none⟩=some (.string ⟨#[]⟩):=zc j4 1;have anc:=bU j4.out 1;have aiR:=qP.out;have aiS:=sF.out;have aiT:=Fq.out;have aiU:=IJ.out;have aqD:Aw.cell? ⟨k6,2,none⟩=some (.string ⟨#[]⟩):=zc j4 2;have ane:=bU j4.out 2;have aiV:=qP.out;have aiW:=sF.out;have aiX:=Fq.out;have aiY:=IJ.out;refine qy (w1:=?_) (by rfl) rfl ?_ ?_;rotate_left
    ·go_simp
     rfl
    refine hK.out _ _ ⟨((cell_far (p:=⟨k6,_,none⟩) qP.out _).trans (((cell_far (p:=⟨k6,_,none⟩) qP.out _).trans (((cell_far (p:=⟨k6,_,none⟩) qP.out _).trans (hHeld.1)))))),((cell_far (p:=⟨k6,_,none⟩) qP.out _).trans (((cell_far (p:=⟨k6,_,none⟩) qP.out _).trans (((cell_far (p:=⟨k6,_,none⟩) qP.out _).trans (hHeld.2.1)))))),((cell_far (p:=⟨k6,_,none⟩) qP.out _).trans (((cell_far (p:=⟨k6,_,none⟩) qP.out _).trans (((cell_far (p:=⟨k6,_,none⟩) qP.out _).trans (hHeld.2.2.1)))))),((cell_far (p:=⟨k6,_,none⟩) sF.out _).trans (((cell_far (p:=⟨k6,_,none⟩) sF.out _).trans (((cell_far (p:=⟨k6,_,none⟩) sF.out _).trans (hHeld.2.2.2.1)))))),((cell_far (p:=⟨k6,_,none⟩) sF.out _).trans (((cell_far (p:=⟨k6,_,none⟩) sF.out _).trans (((cell_far (p:=⟨k6,_,none⟩) sF.out _).trans (hHeld.2.2.2.2.1)))))),((cell_far (p:=⟨k6,_,none⟩) sF.out _).trans (((cell_far (p:=⟨k6,_,none⟩) sF.out _).trans (((cell_far (p:=⟨k6,_,none⟩) sF.out _).trans (hHeld.2.2.2.2.2))))))⟩ (fun hHeld=>?_);clear hK K;refine mg (nH aA.out qk) ?_;try go_wp2
    refine bodyPost_ret (results_cell_row rfl _ _ k6 40 #[.bool t175,.string t176,.string t177] (0,0) _ rfl (Kx j4) Tryz.underlying40 rfl qk) rfl ?_;exact⟨zH,zT HB⟩
def yl.f (k:Nat) (af:Bool) (aa aj:ByteArray) (aL:Bool) (aM aN:ByteArray):Option (Int):=(AV.f k af aa aj aL aM aN).bind fun t117=>(some t117)
theorem yl.calls (k:Nat) (af:Bool) (aa aj:ByteArray) (aL:Bool) (aM aN:ByteArray) (r:Int) (w:World) (h:yl.f k af aa aj aL aM aN=some r) :
  Calls Tryz.prog 54 #[.agg #[.bool af,.string aa,.string aj,.bool aL,.string aM,.string aN]] w fun e w'=>e = .returned (.int .i64 r)/\Below w.heap.size w w':=by
 have ng:=Tryz.underlying54;have iL:=Tryz.underlying40;have HB:=qa (Below.refl w.heap.size w);unfold yl.f at h;have H:=h;clear h;obtain⟨t117,A2,H⟩:=zo H;obtain rfl:=Option.some.inj H;go_enter Tryz.func54,Tryz.ntmps54;go_wp2_with (first|((with_reducible refine aV (N:=1) rfl ?_);refine zY 1 #[.bool af,.string aa,.string aj,.bool aL,.string aM,.string aN] 54 ?_;intro ax5 hg w3 ah hb;have TX:=qa (ah);have ax6:=zG hg HB;have ax7:=zG hg HB;replace HB:=zS HB hb;clear hb ah hg;obtain⟨Nr,Ns,Nt,amc,amd,ame,Nu,Nv,Nw,amf,amg,amh⟩:=z6 TX)|((with_reducible refine cW (f:=81) rfl ?_);refine zO Tryz.func81 qk (AV.calls k af aa aj aL aM aN t117 _ A2.out) fun w5 hb=>?_;replace TX:=zB TX hb;replace HB:=zS HB hb;(try clear hb)))
 go_ret
 exact⟨zH,zT HB⟩
open Go.Proofs.YtcmepkhjggpmeaaGreat Go.Proofs.YtcmepkhjggpmeaaGreat.aP in
def vB.f (k:Nat) (af:Bool) (aa aj:ByteArray) (aq:Bool) (ak ay:ByteArray):Option (Bool × ByteArray × ByteArray):=(oV.f k af aa aj aq ak ay).map fun r=>(r.1,r.2.1,r.2.2.1)
open Go.Proofs.YtcmepkhjggpmeaaGreat Go.Proofs.YtcmepkhjggpmeaaGreat.aP in
theorem vB.calls (k:Nat) (af:Bool) (aa aj:ByteArray) (aq:Bool) (ak ay:ByteArray) (r1:Bool) (r2 r3:ByteArray) (w:World) (h:vB.f k af aa aj aq ak ay=some (r1,r2,r3)) :
  Calls Tryz.prog 162 #[.func (.func 163) #[] #[],.agg #[.bool af,.string aa,.string aj],.agg #[.bool aq,.string ak,.string ay]] w fun e w'=>e = .returned (.agg #[.bool r1,.string r2,.string r3])/\Below w.heap.size w w':=by
 unfold vB.f at h;obtain⟨⟨x1,x2,x3,x4⟩,hx,he⟩:=Option.map_eq_some_iff.1 h;simp only[Prod.mk.injEq]at he;obtain⟨rfl,rfl,rfl⟩:=he;exact amk _ _ _ _ _ _ _ _ _ _ (qa fun w=>oV.calls k _ _ _ _ _ _ _ _ _ _ w hx) w
def Dy.f (k:Nat) (af:Bool) (aa aj:ByteArray) (aq:Bool) (ak ay:ByteArray):Option (Bool × ByteArray × ByteArray × Int):=(IA.f k af aa aj aq ak ay).bind fun Om=>(some (Om.1,Om.2.1,Om.2.2.1,Om.2.2.2))
theorem Dy.calls (k:Nat) (af:Bool) (aa aj:ByteArray) (aq:Bool) (ak ay:ByteArray) (r1:Bool) (r2 r3:ByteArray) (r4:Int) (w:World) (h:Dy.f k af aa aj aq ak ay=some (r1,r2,r3,r4)) :
  Calls Tryz.prog 133 #[.agg #[.bool af,.string aa,.string aj],.agg #[.bool aq,.string ak,.string ay]] w fun e w'=>e = .returned (.tuple #[.agg #[.bool r1,.string r2,.string r3],.int .i64 r4])/\Below w.heap.size w w':=by
 have iL:=Tryz.underlying40;have HB:=qa (Below.refl w.heap.size w);unfold Dy.f at h;have H:=h;clear h;obtain⟨⟨adw,adx,ady,aq8⟩,A3,H⟩:=zo H;try dsimp only at H
 simp only[Option.some.injEq,Prod.mk.injEq]at H;obtain⟨rfl,rfl,rfl,rfl⟩:=H;go_enter Tryz.func133,Tryz.ntmps133;go_wp2_with (first|((with_reducible refine aV (N:=2) rfl ?_);refine zY 2 #[.bool af,.string aa,.string aj] 40 ?_;intro ayP hg w4 ah hb;have yQ:=qa (ah);have ayQ:=zG hg HB;have ayR:=zG hg HB;replace HB:=zS HB hb;clear hb ah hg)|((with_reducible refine aV (N:=3) rfl ?_);refine zY 3 #[.bool aq,.string ak,.string ay] 40 ?_;intro ayS hg w5 ah hb;have GL:=qa (ah);have ayT:=zG hg HB;have ayU:=zG hg HB;obtain⟨af7,af8⟩:=zQ hg yQ;replace yQ:=zB yQ hb;replace HB:=zS HB hb;clear hb ah hg)|((with_reducible refine aV (N:=4) rfl ?_);refine zY 4 #[.bool false,.string ⟨#[]⟩,.string ⟨#[]⟩] 40 ?_;intro aoV hg w6 ah hb;have On:=qa (ah);have ayV:=zG hg HB;have ayW:=zG hg HB;obtain⟨af9,af_⟩:=zQ hg yQ;obtain⟨af',aga⟩:=zQ hg GL;obtain⟨yQ,GL⟩:=eX yQ GL hb;replace HB:=zS HB hb;clear hb ah hg;have Ew:=af7.out;have Ex:=af8.out;have wo:=af9.out;have wu:=af_.out;obtain⟨vV,vW,yG,vX,vY,yH⟩:=z3 yQ;have xF:=af'.out;have xG:=aga.out;obtain⟨qc,qg,qi,qj,qp,qu⟩:=z3 GL)|((with_reducible refine cW (f:=66) rfl ?_);refine zO Tryz.func66 qk (IA.calls k af aa aj aq ak ay adw adx ady aq8 _ A3.out) fun iH hb=>?_;obtain⟨yQ,GL,On⟩:=bC yQ GL On hb;replace HB:=zS HB hb;(try clear hb);obtain⟨Gg,Gh,Gi,Gj,Gk,Gl⟩:=z3 On))
 refine bodyPost_ret (pI rfl _ _ aoV 40 #[.bool adw,.string adx,.string ady] (0,0) _ rfl (Kx On) Tryz.underlying40 rfl qk) rfl ?_;exact⟨zH,zT HB⟩
open Go.Proofs.YtcmepkhjggpmeaaGreat Go.Proofs.YtcmepkhjggpmeaaGreat.aP in
def sy.f (k:Nat) (af:Bool) (aa aj:ByteArray) (aq:Bool) (ak ay:ByteArray):Option (Bool × ByteArray × ByteArray):=(Dy.f k af aa aj aq ak ay).map fun r=>(r.1,r.2.1,r.2.2.1)
open Go.Proofs.YtcmepkhjggpmeaaGreat Go.Proofs.YtcmepkhjggpmeaaGreat.aP in
theorem sy.calls (k:Nat) (af:Bool) (aa aj:ByteArray) (aq:Bool) (ak ay:ByteArray) (r1:Bool) (r2 r3:ByteArray) (w:World) (h:sy.f k af aa aj aq ak ay=some (r1,r2,r3)) :
  Calls Tryz.prog 162 #[.func (.func 133) #[] #[],.agg #[.bool af,.string aa,.string aj],.agg #[.bool aq,.string ak,.string ay]] w fun e w'=>e = .returned (.agg #[.bool r1,.string r2,.string r3])/\Below w.heap.size w w':=by
 unfold sy.f at h;obtain⟨⟨x1,x2,x3,x4⟩,hx,he⟩:=Option.map_eq_some_iff.1 h;simp only[Prod.mk.injEq]at he;obtain⟨rfl,rfl,rfl⟩:=he;exact amj _ _ _ _ _ _ _ _ _ _ (qa fun w=>Dy.calls k _ _ _ _ _ _ _ _ _ _ w hx) w
def BC.f (k:Nat) (af:Bool) (aa aj:ByteArray) (aq:Bool) (ak ay:ByteArray):Option (Bool × ByteArray × ByteArray × Int):=(IB.f k af aa aj aq ak ay).bind fun Ow=>(some (Ow.1,Ow.2.1,Ow.2.2.1,Ow.2.2.2))
theorem BC.calls (k:Nat) (af:Bool) (aa aj:ByteArray) (aq:Bool) (ak ay:ByteArray) (r1:Bool) (r2 r3:ByteArray) (r4:Int) (w:World) (h:BC.f k af aa aj aq ak ay=some (r1,r2,r3,r4)) :
  Calls Tryz.prog 40 #[.agg #[.bool af,.string aa,.string aj],.agg #[.bool aq,.string ak,.string ay]] w fun e w'=>e = .returned (.tuple #[.agg #[.bool r1,.string r2,.string r3],.int .i64 r4])/\Below w.heap.size w w':=by
 have iL:=Tryz.underlying40;have HB:=qa (Below.refl w.heap.size w);unfold BC.f at h;have H:=h;clear h;obtain⟨⟨aei,aej,aek,arJ⟩,A3,H⟩:=zo H;try dsimp only at H
 simp only[Option.some.injEq,Prod.mk.injEq]at H;obtain⟨rfl,rfl,rfl,rfl⟩:=H;go_enter Tryz.func40,Tryz.ntmps40;go_wp2_with (first|((with_reducible refine aV (N:=2) rfl ?_);refine zY 2 #[.bool af,.string aa,.string aj] 40 ?_;intro azP hg w4 ah hb;have yY:=qa (ah);have azQ:=zG hg HB;have azR:=zG hg HB;replace HB:=zS HB hb;clear hb ah hg)|((with_reducible refine aV (N:=3) rfl ?_);refine zY 3 #[.bool aq,.string ak,.string ay] 40 ?_;intro azS hg w5 ah hb;have G5:=qa (ah);have azT:=zG hg HB;have azU:=zG hg HB;obtain⟨agG,agH⟩:=zQ hg yY;replace yY:=zB yY hb;replace HB:=zS HB hb;clear hb ah hg)|((with_reducible refine aV (N:=4) rfl ?_);refine zY 4 #[.bool false,.string ⟨#[]⟩,.string ⟨#[]⟩] 40 ?_;intro apx hg w6 ah hb;have Ox:=qa (ah);have azV:=zG hg HB;have azW:=zG hg HB;obtain⟨agI,agJ⟩:=zQ hg yY;obtain⟨agK,agL⟩:=zQ hg G5;obtain⟨yY,G5⟩:=eX yY G5 hb;replace HB:=zS HB hb;clear hb ah hg;have Ew:=agG.out;have Ex:=agH.out;have wo:=agI.out;have wu:=agJ.out;obtain⟨vV,vW,yG,vX,vY,yH⟩:=z3 yY;have xF:=agK.out;have xG:=agL.out;obtain⟨qc,qg,qi,qj,qp,qu⟩:=z3 G5)|((with_reducible refine cW (f:=66) rfl ?_);refine zO Tryz.func66 qk (IB.calls k af aa aj aq ak ay aei aej aek arJ _ A3.out) fun iH hb=>?_;obtain⟨yY,G5,Ox⟩:=bC yY G5 Ox hb;replace HB:=zS HB hb;(try clear hb);obtain⟨Gg,Gh,Gi,Gj,Gk,Gl⟩:=z3 Ox))
 refine bodyPost_ret (pI rfl _ _ apx 40 #[.bool aei,.string aej,.string aek] (0,0) _ rfl (Kx Ox) Tryz.underlying40 rfl qk) rfl ?_;exact⟨zH,zT HB⟩
def Gr.f (a0:Int):Option (Bool × ByteArray × ByteArray):=(FR.f a0).bind fun ab3=>(some (ab3.1,ab3.2,(⟨#[1]⟩:ByteArray)))
theorem Gr.calls (a0:Int) (r1:Bool) (r2 r3:ByteArray) (w:World) (h:Gr.f a0=some (r1,r2,r3)) :
  Calls Tryz.prog 38 #[.int .i64 a0] w fun e w'=>e = .returned (.agg #[.bool r1,.string r2,.string r3])/\Below w.heap.size w w':=by
 have iL:=Tryz.underlying40;have HB:=qa (Below.refl w.heap.size w);unfold Gr.f at h;have H:=h;clear h;obtain⟨⟨ae8,ae9⟩,A2,H⟩:=zo H;try dsimp only at H
 simp only[Option.some.injEq,Prod.mk.injEq]at H;obtain⟨rfl,rfl,rfl⟩:=H;go_enter Tryz.func38,Tryz.ntmps38;go_wp2_with (first|((with_reducible refine aV (N:=2) rfl ?_);refine zY 2 #[.bool false,.string ⟨#[]⟩,.string ⟨#[]⟩] 40 ?_;intro ap0 hg w3 ah hb;have OA:=qa (ah);have aAG:=zG hg HB;have aAH:=zG hg HB;replace HB:=zS HB hb;clear hb ah hg)|((with_reducible refine cW (f:=62) rfl ?_);refine zO Tryz.func62 qk (FR.calls a0 ae8 ae9 _ A2.out) fun w4 hb=>?_;replace OA:=zB OA hb;replace HB:=zS HB hb;(try clear hb);obtain⟨BG,BH,BI,BJ,BK,BL⟩:=z3 OA))
 refine bodyPost_ret (results_cell_row rfl _ _ ap0 40 #[.bool ae8,.string ae9,.string (⟨#[1]⟩:ByteArray)] (0,0) _ rfl (Kx OA) Tryz.underlying40 rfl qk) rfl ?_;exact⟨zH,zT HB⟩
end Go.Proofs.aF.R
