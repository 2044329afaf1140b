import Derived.Test.YtfcjnhkkfmgmpaaGreatZtG19
set_option linter.all false
set_option maxRecDepth 100000
set_option maxHeartbeats 8000000
namespace Go.Proofs.aA.R
open Go.RowKit Go.Proofs.aA.Z Go.Proofs.aB.aZ Go.Proofs.aB.bT Go.Proofs.aB.bX
attribute [local go_sem] cm ct cz cA cj ck cu cw
def wW.f (k:Nat) (af:Bool) (aa aj:ByteArray) (aq:Bool) (ak au:ByteArray):Option (Bool × ByteArray × ByteArray):=(Hv.f aq ak au).bind fun Wz=>((iQ.f k af aa aj Wz.1 Wz.2.1 Wz.2.2).bind fun WA=>(some (WA.1,WA.2.1,WA.2.2)))
theorem wW.calls (k:Nat) (af:Bool) (aa aj:ByteArray) (aq:Bool) (ak au:ByteArray) (r1:Bool) (r2 r3:ByteArray) (w:World) (h:wW.f k af aa aj aq ak au=some (r1,r2,r3)) :
  Calls Tryz.prog 64 #[.agg #[.bool af,.string aa,.string aj],.agg #[.bool aq,.string ak,.string au]] w fun e w'=>e = .returned (.agg #[.bool r1,.string r2,.string r3])/\Below w.heap.size w w':=by
 have ji:=Tryz.underlying40;have HB:=qa (Below.refl w.heap.size w);unfold wW.f at h;have H:=h;clear h;obtain⟨⟨t157,t158,t159⟩,A3,H⟩:=zo H;try dsimp only at H
 obtain⟨⟨t160,t161,t162⟩,A4,H⟩:=zo H;try dsimp only at H
 simp only[Option.some.injEq,Prod.mk.injEq]at H;obtain⟨rfl,rfl,rfl⟩:=H;go_enter Tryz.func64,Tryz.ntmps64;try go_wp2_with (first|((with_reducible refine aR (N:=2) rfl ?_);refine zY 2 #[.bool af,.string aa,.string aj] 40 ?_;intro WB hg w5 ah hb;have nw:=qa (ah);have azg:=zG hg HB;have azh:=zG hg HB;replace HB:=zS HB hb;clear hb ah hg)|((with_reducible refine aR (N:=3) rfl ?_);refine zY 3 #[.bool aq,.string ak,.string au] 40 ?_;intro WC hg w6 ah hb;have oW:=qa (ah);have azi:=zG hg HB;have azj:=zG hg HB;obtain⟨avk,avl⟩:=zQ hg nw;replace nw:=zB nw hb;replace HB:=zS HB hb;clear hb ah hg)|((with_reducible refine aR (N:=4) rfl ?_);refine zY 4 #[.bool false,.string ⟨#[]⟩,.string ⟨#[]⟩] 40 ?_;intro ny hg w7 ah hb;have uj:=qa (ah);have azk:=zG hg HB;have azl:=zG hg HB;obtain⟨vS,Tp⟩:=zQ hg nw;obtain⟨vT,Tq⟩:=zQ hg oW;obtain⟨nw,oW⟩:=eo nw oW hb;replace HB:=zS HB hb;clear hb ah hg))
 replace nw:=zD nw;replace oW:=zD oW;replace uj:=zD uj;replace HB:=zF HB;refine mg (n:=5) (S:=fun w'=>w'.cell? ⟨WB,0,none⟩=some (.bool af)/\w'.cell? ⟨WB,1,none⟩=some (.string aa)/\w'.cell? ⟨WB,2,none⟩=some (.string aj)/\w'.cell? ⟨WC,0,none⟩=some (.bool aq)/\w'.cell? ⟨WC,1,none⟩=some (.string ak)/\w'.cell? ⟨WC,2,none⟩=some (.string au)) (ds:=[]) (zb 5 0) qk rfl rfl ⟨zc nw 0,zc nw 1,zc nw 2,zc oW 0,zc oW 1,zc oW 2⟩ (fun hHeld=>?_);generalize w7.drew=w8 at nw oW uj HB hHeld ⊢;refine FE (i:=0) (N:=some 5) (v:=?_) (a':=?_) (zb 5 1) rfl rfl qk (fun _ _ _ h=>h) (Or.inl ⟨by rfl,?_⟩) hHeld ?_ ?_;rotate_left
 ·rintro w' ⟨s0,s1,s2,s3,s4,s5⟩
  go_simp
  with_reducible rfl
 rotate_left
 ·simp only[Act.put,List.setIfInBounds_toArray,List.set_cons_zero,List.set_cons_succ,dL,dM]
  rfl
 refine FE (i:=1) (N:=some 6) (v:=?_) (a':=?_) (zb 5 3) rfl rfl qk (fun _ _ _ h=>h) (Or.inl ⟨by rfl,?_⟩) hHeld ?_ ?_;rotate_left
 ·rintro w' ⟨s0,s1,s2,s3,s4,s5⟩
  go_simp
  with_reducible rfl
 rotate_left
 ·simp only[Act.put,List.setIfInBounds_toArray,List.set_cons_zero,List.set_cons_succ,dL,dM]
  rfl
 refine bM (i:=2) (N:=some 7) (zb 5 7) rfl rfl qk qd (fun K hK=>?_);refine zJ Tryz.func75 qk (Hv.calls aq ak au t157 t158 t159 _ A3.out) fun w9 hb=>?_;obtain⟨nw,oW,uj⟩:=bB nw oW uj hb;replace HB:=zS HB hb
 (try clear hb)
 refine hK.out _ _ ⟨zc nw 0,zc nw 1,zc nw 2,zc oW 0,zc oW 1,zc oW 2⟩ (fun hHeld=>?_);clear hK K;refine zW (some 7) ?_;refine bM (i:=3) (N:=some 8) (zb 5 15) rfl rfl qk qd (fun K hK=>?_);refine zJ Tryz.func74 qk (iQ.calls k af aa aj t157 t158 t159 t160 t161 t162 _ A4.out) fun gI hb=>?_;obtain⟨nw,oW,uj⟩:=bB nw oW uj hb;replace HB:=zS HB hb
 (try clear hb)
 refine hK.out _ _ ⟨zc nw 0,zc nw 1,zc nw 2,zc oW 0,zc oW 1,zc oW 2⟩ (fun hHeld=>?_);clear hK K;refine zW (some 8) ?_;refine bM (i:=4) (N:=none) (zb 5 31) rfl rfl qk qd (fun K hK=>?_);have at5:gI.cell? ⟨ny,0,none⟩=some (.bool false):=zc uj 0;have aqp:=b_ uj.out 0;have alZ:=vS.out;have al0:=vT.out;have al1:=Tp.out;have al2:=Tq.out;have at6:gI.cell? ⟨ny,1,none⟩=some (.string ⟨#[]⟩):=zc uj 1;have aqq:=b_ uj.out 1;have al3:=vS.out;have al4:=vT.out;have al5:=Tp.out;have al6:=Tq.out;have X0:gI.cell? ⟨ny,2,none⟩=some (.string ⟨#[]⟩):=zc uj 2;have WD:=b_ uj.out 2;have Vp:=vS.out;have Vq:=vT.out;have Vr:=Tp.out;have Vs:=Tq.out;refine qA (w1:=?_) (by rfl) rfl ?_ ?_;rotate_left
 ·go_simp
  rfl
 refine hK.out _ _ ⟨((cell_far (p:=⟨ny,_,none⟩) vS.out _).trans (((cell_far (p:=⟨ny,_,none⟩) vS.out _).trans (((cell_far (p:=⟨ny,_,none⟩) vS.out _).trans (hHeld.1)))))),((cell_far (p:=⟨ny,_,none⟩) vS.out _).trans (((cell_far (p:=⟨ny,_,none⟩) vS.out _).trans (((cell_far (p:=⟨ny,_,none⟩) vS.out _).trans (hHeld.2.1)))))),((cell_far (p:=⟨ny,_,none⟩) vS.out _).trans (((cell_far (p:=⟨ny,_,none⟩) vS.out _).trans (((cell_far (p:=⟨ny,_,none⟩) vS.out _).trans (hHeld.2.2.1)))))),((cell_far (p:=⟨ny,_,none⟩) vT.out _).trans (((cell_far (p:=⟨ny,_,none⟩) vT.out _).trans (((cell_far (p:=⟨ny,_,none⟩) vT.out _).trans (hHeld.2.2.2.1)))))),((cell_far (p:=⟨ny,_,none⟩) vT.out _).trans (((cell_far (p:=⟨ny,_,none⟩) vT.out _).trans (((cell_far (p:=⟨ny,_,none⟩) vT.out _).trans (hHeld.2.2.2.2.1)))))),((cell_far (p:=⟨ny,_,none⟩) vT.out _).trans (((cell_far (p:=⟨ny,_,none⟩) vT.out _).trans (((cell_far (p:=⟨ny,_,none⟩) vT.out _).trans (hHeld.2.2.2.2.2))))))⟩ (fun hHeld=>?_);clear hK K;refine mh qk ?_;try go_wp2
 refine bodyPost_ret (results_cell_row rfl _ _ ny 40 #[.bool t160,.string t161,.string t162] (0,0) _ rfl (Kx uj) Tryz.underlying40 rfl qk) rfl ?_;exact⟨zH,zT HB⟩
def jG.j0:Nat->Bool->Bool->ByteArray->ByteArray->Bool->ByteArray->ByteArray->Option (Bool × ByteArray × ByteArray)
 | 0,_,_,_,_,_,_,_=>none
 | k+1,x12,Vt,Vu,al7,Vv,Vw,al8=>if x12=true then ((oT.f Vt Vu Vv Vw).bind fun aew=>(some (aew.1,aew.2,(⟨#[1]⟩:ByteArray)))) else ((oT.f Vt Vu Vv Vw).bind fun aex=>((lZ.f Vt Vu al7).bind fun aey=>((lZ.f Vv Vw al8).bind fun aez=>((oT.f aey.1 aey.2 aez.1 aez.2).bind fun aeA=>((Ah.f aex.1 aex.2 aeA.1 aeA.2).bind fun WE=>(some (WE.1,WE.2.1,WE.2.2)))))))
def jG.f (k:Nat) (af:Bool) (aa aj:ByteArray) (aq:Bool) (ak au:ByteArray):Option (Bool × ByteArray × ByteArray):=if aj.toList=([1]:List UInt8) then (jG.j0 k (au.toList==([1]:List UInt8)) af aa aj aq ak au) else (jG.j0 k false af aa aj aq ak au)
def jG.T3:Bool × List (List Nat × List Nat):=(true,[([],[]),([0],[0]),([],[]),([2],[2]),([1,3],[1,3]),([],[]),([5,4],[5]),([],[]),([7,6],[7]),([6,8,8],[6,8]),([4,9,9],[4,9]),([10,10,0,1,2,3,4,5,6,7,8,9,10],[10])])
def jG.B3:List Nat:=[0,1,0,4,15,0,63,0,255,511,1023,2047]
theorem jG.Df:ia .any (opsOf Tryz.f65 3)=jG.T3:=by kernel_rfl
theorem jG.CZ:nh jG.T3.2 jG.B3=true:=by kernel_rfl
theorem jG.calls (k:Nat) (af:Bool) (aa aj:ByteArray) (aq:Bool) (ak au:ByteArray) (r1:Bool) (r2 r3:ByteArray) (w:World) (h:jG.f k af aa aj aq ak au=some (r1,r2,r3)) :
  Calls Tryz.prog 65 #[.agg #[.bool af,.string aa,.string aj],.agg #[.bool aq,.string ak,.string au]] w fun e w'=>e = .returned (.agg #[.bool r1,.string r2,.string r3])/\Below w.heap.size w w':=by
 have ji:=Tryz.underlying40;have Be:=Tryz.underlying38;have xW:=ze;have BJ:=zf;have hf2:=zg;have hf3:=zh;have HB:=qa (Below.refl w.heap.size w);unfold jG.f at h;have H:=h;clear h;have oM:=qa H;clear H;go_enter Tryz.func65,Tryz.ntmps65;go_upto_region 1 with (first|((with_reducible refine aR (N:=2) rfl ?_);refine zY 2 #[.bool af,.string aa,.string aj] 40 ?_;intro QK hg w4 ah hb;have fF:=qa (ah);have azm:=zG hg HB;have azn:=zG hg HB;replace HB:=zS HB hb;clear hb ah hg)|((with_reducible refine aR (N:=3) rfl ?_);refine zY 3 #[.bool aq,.string ak,.string au] 40 ?_;intro QL hg w5 ah hb;have gL:=qa (ah);have azo:=zG hg HB;have azp:=zG hg HB;obtain⟨Ts,Tt⟩:=zQ hg fF;replace fF:=zB fF hb;replace HB:=zS HB hb;clear hb ah hg)|((with_reducible refine aR (N:=4) rfl ?_);refine zY 4 #[.bool false,.string ⟨#[]⟩,.string ⟨#[]⟩] 40 ?_;intro mj hg w6 ah hb;have kZ:=qa (ah);have azq:=zG hg HB;have azr:=zG hg HB;obtain⟨rQ,Hz⟩:=zQ hg fF;obtain⟨tR,KE⟩:=zQ hg gL;obtain⟨fF,gL⟩:=eo fF gL hb;replace HB:=zS HB hb;clear hb ah hg))
 (try simp only[Act.put,List.setIfInBounds_toArray,List.set_cons_zero,List.set_cons_succ])
 go_cut [12] (fun v12 wc=>∃ (kq:Nat) (QM:Bool),v12 = .bool QM/\aO (jG.j0 kq QM af aa aj aq ak au=some (r1,r2,r3))/\aO (kq<=k)/\aO (wc.heap[QK]?=some (.cells #[.bool af,.string aa,.string aj] 40 (0,0)))/\aO (wc.heap[QL]?=some (.cells #[.bool aq,.string ak,.string au] 40 (0,0)))/\aO (wc.heap[mj]?=some (.cells #[.bool false,.string ⟨#[]⟩,.string ⟨#[]⟩] 40 (0,0)))/\aO (Below w.heap.size w wc))
 case first =>
  have H:=oM.out;clear oM;by_cases c7:aj.toList=([1]:List UInt8)
  ·rw[if_pos c7]at H
   have oH:=beq_iff_eq.mpr c7;have Dg:=bne_eq_false_iff_eq.mpr c7;clear c7
   (first|rw[oH]|(simp only[dL,dM];rw[oH])|skip)
   have H':=qa H;clear H;have zw:=Ts.out;have zx:=Tt.out;have XY:=rQ.out;have XZ:=Hz.out;obtain⟨Vj,Vk,Vl,Vm,Vn,Vo⟩:=z3 fF;have I4:=tR.out;have I5:=KE.out;obtain⟨Ct,Cu,Cv,Cw,Cx,Cy⟩:=z3 gL;go_wp2
   go_meet
   case rel=>exact⟨_,((au.toList==([1]:List UInt8))),zR,H',zL,zK fF,zK gL,zK kZ,⟨zT HB⟩⟩
  ·rw[if_neg c7]at H
   have oH:=beq_eq_false_iff_ne.mpr c7;have Dg:=bne_iff_ne.mpr c7
   (first|rw[oH]|(simp only[dL,dM];rw[oH])|skip)
   have H':=qa H;clear H;have C3:=Ts.out;have C4:=Tt.out;have QI:=rQ.out;have QJ:=Hz.out;obtain⟨Ax,Ay,Az,AA,AB,AD⟩:=z3 fF;go_wp2
   go_meet
   case rel=>exact⟨_,(false),zR,H',zL,zK fF,zK gL,zK kZ,⟨zT HB⟩⟩
 case rest =>
  clear oM;try clear c1;try clear p2;try clear c6;try clear c7;try clear oH;try clear Dg;try clear c8;try clear c9;try clear c11;try clear c13;try clear c14;try clear Vj;try clear Vk;try clear Vl;try clear Ct;try clear Cu;try clear Cv;try clear Ax;try clear Ay;try clear Az;try clear Vm;try clear Vn;try clear Vo;try clear Cw;try clear Cx;try clear Cy;try clear AA;try clear AB;try clear AD
  obtain⟨kq,QM,rfl,HA,BK,fF,gL,kZ,HB⟩:=hcut;cases kq with
  | zero=>exact absurd HA.out (by simp[jG.j0])
  | succ J' =>
   have H:=HA.out;clear HA;simp only[jG.j0]at H;by_cases c16:QM=true
   ·subst c16
    rw[if_pos rfl]at H
    obtain⟨⟨t166,t167⟩,NR,H⟩:=zo H;try dsimp only at H
    simp only[Option.some.injEq,Prod.mk.injEq]at H;obtain⟨rfl,rfl,rfl⟩:=H;have LZ:=Ts.out;have L4:=Tt.out;have aes:=rQ.out;have aet:=Hz.out;obtain⟨ED,EE,EF,EG,EH,EI⟩:=z3 fF;have L5:=tR.out;have L6:=KE.out;obtain⟨KT,KU,KV,KW,KX,KY⟩:=z3 gL;go_wp2_with (first|((with_reducible refine cU (f:=76) rfl ?_);refine zO Tryz.func76 qk (oT.calls af aa aq ak t166 t167 _ NR.out) fun BQ hb=>?_;obtain⟨fF,gL,kZ⟩:=bB fF gL kZ hb;replace HB:=zS HB hb;(try clear hb);obtain⟨alM,alN,alO,alP,alQ,alR⟩:=z3 kZ))
    refine bodyPost_ret (results_cell_row rfl _ _ mj 40 #[.bool t166,.string t167,.string (⟨#[1]⟩:ByteArray)] (0,0) _ rfl (Kx kZ) Tryz.underlying40 rfl qk) rfl ?_;exact⟨zH,zT HB⟩
   ·replace c16:=Bool.eq_false_iff.mpr c16
    subst c16;rw[if_neg zn]at H
    obtain⟨⟨t168,t169⟩,Ka,H⟩:=zo H;try dsimp only at H
    obtain⟨⟨t170,t171⟩,Su,H⟩:=zo H;try dsimp only at H
    obtain⟨⟨t172,t173⟩,Sv,H⟩:=zo H;try dsimp only at H
    obtain⟨⟨t174,t175⟩,Sw,H⟩:=zo H;try dsimp only at H
    obtain⟨⟨t176,t177,t178⟩,Sy,H⟩:=zo H;try dsimp only at H
    simp only[Option.some.injEq,Prod.mk.injEq]at H;obtain⟨rfl,rfl,rfl⟩:=H;try go_wp2
    replace fF:=zD fF;replace gL:=zD gL;replace kZ:=zD kZ;replace HB:=zF HB;refine mg (n:=12) (S:=fun w'=>w'.cell? ⟨QK,0,none⟩=some (.bool af)/\w'.cell? ⟨QK,1,none⟩=some (.string aa)/\w'.cell? ⟨QK,2,none⟩=some (.string aj)/\w'.cell? ⟨QL,0,none⟩=some (.bool aq)/\w'.cell? ⟨QL,1,none⟩=some (.string ak)/\w'.cell? ⟨QL,2,none⟩=some (.string au)) (ds:=[]) (zb 12 0) qk rfl rfl ⟨zc fF 0,zc fF 1,zc fF 2,zc gL 0,zc gL 1,zc gL 2⟩ (fun hHeld=>?_);refine mZ jG.Df jG.CZ (fun av bN=>?_);generalize wc.drew=Kg at fF gL kZ HB hHeld ⊢;refine zU (i:=0) (N:=some 19) (zb 12 1) (bf av.out qk) ?_;refine zU (i:=2) (N:=some 21) (zb 12 5) (bf av.out qk) ?_;refine zV (i:=1) (N:=some 20) (zb 12 7) (cg av.out bN.out qk) hHeld ?_;refine zV (i:=3) (N:=some 22) (zb 12 15) (cg av.out bN.out qk) hHeld ?_;refine zV (i:=5) (N:=some 24) (zb 12 47) (cg av.out bN.out qk) hHeld ?_;refine zV (i:=7) (N:=some 26) (zb 12 175) (cg av.out bN.out qk) hHeld ?_;refine bM (i:=4) (N:=some 23) (zb 12 191) rfl rfl (bO av.out qk) qd (fun K hK=>?_);refine zJ Tryz.func76 qk (oT.calls af aa aq ak t168 t169 _ Ka.out) fun w31 hb=>?_;obtain⟨fF,gL,kZ⟩:=bB fF gL kZ hb;replace HB:=zS HB hb
    (try clear hb)
    refine hK.out _ _ ⟨zc fF 0,zc fF 1,zc fF 2,zc gL 0,zc gL 1,zc gL 2⟩ (fun hHeld=>?_);clear hK K;refine zW (some 23) ?_;refine bM (i:=6) (N:=some 25) (zb 12 255) rfl rfl (bO av.out qk) qd (fun K hK=>?_);refine zJ Tryz.func78 qk (lZ.calls af aa aj t170 t171 _ Su.out) fun SB hb=>?_;obtain⟨fF,gL,kZ⟩:=bB fF gL kZ hb;replace HB:=zS HB hb
    (try clear hb)
    refine hK.out _ _ ⟨zc fF 0,zc fF 1,zc fF 2,zc gL 0,zc gL 1,zc gL 2⟩ (fun hHeld=>?_);clear hK K;refine zW (some 25) ?_;refine bM (i:=8) (N:=some 27) (zb 12 511) rfl rfl (bO av.out qk) qd (fun K hK=>?_);refine zJ Tryz.func78 qk (lZ.calls aq ak au t172 t173 _ Sv.out) fun NT hb=>?_;obtain⟨fF,gL,kZ⟩:=bB fF gL kZ hb;replace HB:=zS HB hb
    (try clear hb)
    refine hK.out _ _ ⟨zc fF 0,zc fF 1,zc fF 2,zc gL 0,zc gL 1,zc gL 2⟩ (fun hHeld=>?_);clear hK K;refine zW (some 27) ?_;refine bM (i:=9) (N:=some 28) (zb 12 1023) rfl rfl (bO av.out qk) qd (fun K hK=>?_);refine zJ Tryz.func76 qk (oT.calls t170 t171 t172 t173 t174 t175 _ Sw.out) fun SA hb=>?_;obtain⟨fF,gL,kZ⟩:=bB fF gL kZ hb;replace HB:=zS HB hb
    (try clear hb)
    refine hK.out _ _ ⟨zc fF 0,zc fF 1,zc fF 2,zc gL 0,zc gL 1,zc gL 2⟩ (fun hHeld=>?_);clear hK K;refine zW (some 28) ?_;refine bM (i:=10) (N:=some 29) (zb 12 2047) rfl rfl (bO av.out qk) qd (fun K hK=>?_);refine zJ Tryz.func77 qk (Ah.calls t168 t169 t174 t175 t176 t177 t178 _ Sy.out) fun BR hb=>?_;obtain⟨fF,gL,kZ⟩:=bB fF gL kZ hb;replace HB:=zS HB hb
    (try clear hb)
    refine hK.out _ _ ⟨zc fF 0,zc fF 1,zc fF 2,zc gL 0,zc gL 1,zc gL 2⟩ (fun hHeld=>?_);clear hK K;refine zW (some 29) ?_;refine bM (i:=11) (N:=none) (zb 12 4095) rfl rfl (bO av.out qk) qd (fun K hK=>?_);have aB9:BR.cell? ⟨mj,0,none⟩=some (.bool false):=zc kZ 0;have azs:=b_ kZ.out 0;have awa:=rQ.out;have awb:=tR.out;have awc:=Hz.out;have awd:=KE.out;have agI:BR.cell? ⟨mj,1,none⟩=some (.string ⟨#[]⟩):=zc kZ 1;have aeB:=b_ kZ.out 1;have abD:=rQ.out;have abE:=tR.out;have abF:=Hz.out;have abG:=KE.out;have agJ:BR.cell? ⟨mj,2,none⟩=some (.string ⟨#[]⟩):=zc kZ 2;have aeC:=b_ kZ.out 2;have abH:=rQ.out;have abI:=tR.out;have abJ:=Hz.out;have abK:=KE.out;refine qA (w1:=?_) (by rfl) rfl ?_ ?_;rotate_left
    ·go_simp
     rfl
    refine hK.out _ _ ⟨((cell_far (p:=⟨mj,_,none⟩) rQ.out _).trans (((cell_far (p:=⟨mj,_,none⟩) rQ.out _).trans (((cell_far (p:=⟨mj,_,none⟩) rQ.out _).trans (hHeld.1)))))),((cell_far (p:=⟨mj,_,none⟩) rQ.out _).trans (((cell_far (p:=⟨mj,_,none⟩) rQ.out _).trans (((cell_far (p:=⟨mj,_,none⟩) rQ.out _).trans (hHeld.2.1)))))),((cell_far (p:=⟨mj,_,none⟩) rQ.out _).trans (((cell_far (p:=⟨mj,_,none⟩) rQ.out _).trans (((cell_far (p:=⟨mj,_,none⟩) rQ.out _).trans (hHeld.2.2.1)))))),((cell_far (p:=⟨mj,_,none⟩) tR.out _).trans (((cell_far (p:=⟨mj,_,none⟩) tR.out _).trans (((cell_far (p:=⟨mj,_,none⟩) tR.out _).trans (hHeld.2.2.2.1)))))),((cell_far (p:=⟨mj,_,none⟩) tR.out _).trans (((cell_far (p:=⟨mj,_,none⟩) tR.out _).trans (((cell_far (p:=⟨mj,_,none⟩) tR.out _).trans (hHeld.2.2.2.2.1)))))),((cell_far (p:=⟨mj,_,none⟩) tR.out _).trans (((cell_far (p:=⟨mj,_,none⟩) tR.out _).trans (((cell_far (p:=⟨mj,_,none⟩) tR.out _).trans (hHeld.2.2.2.2.2))))))⟩ (fun hHeld=>?_);clear hK K;refine mh (ng av.out qk) ?_;try go_wp2
    refine bodyPost_ret (results_cell_row rfl _ _ mj 40 #[.bool t176,.string t177,.string t178] (0,0) _ rfl (Kx kZ) Tryz.underlying40 rfl qk) rfl ?_;exact⟨zH,zT HB⟩
def qQ.f (k:Nat) (af:Bool) (aa aj:ByteArray) (aI:Bool) (aJ aK:ByteArray) (aq:Bool) (ak au:ByteArray) (aL:Bool) (aM aN:ByteArray):Option (Bool × ByteArray × ByteArray):=(jG.f k af aa aj aq ak au).bind fun Xv=>((jG.f k aI aJ aK aL aM aN).bind fun Xw=>((iQ.f k Xv.1 Xv.2.1 Xv.2.2 Xw.1 Xw.2.1 Xw.2.2).bind fun Xx=>(some (Xx.1,Xx.2.1,Xx.2.2))))
def qQ.T1:Bool × List (List Nat × List Nat):=(true,[([],[]),([0],[0]),([],[]),([2],[2]),([1,3],[1,3]),([],[]),([5],[5]),([],[]),([7],[7]),([6,8,4],[6,8]),([4,9,9],[4,9]),([10,10,0,1,2,3,4,5,6,7,8,9,10],[10])])
def qQ.B1:List Nat:=[0,1,0,4,15,0,32,0,128,511,1023,2047]
theorem qQ.vv:ia .any (opsOf Tryz.f71 1)=qQ.T1:=by kernel_rfl
theorem qQ.uU:nh qQ.T1.2 qQ.B1=true:=by kernel_rfl
theorem qQ.calls (k:Nat) (af:Bool) (aa aj:ByteArray) (aI:Bool) (aJ aK:ByteArray) (aq:Bool) (ak au:ByteArray) (aL:Bool) (aM aN:ByteArray) (r1:Bool) (r2 r3:ByteArray) (w:World) (h:qQ.f k af aa aj aI aJ aK aq ak au aL aM aN=some (r1,r2,r3)) :
  Calls Tryz.prog 71 #[.agg #[.bool af,.string aa,.string aj,.bool aI,.string aJ,.string aK],.agg #[.bool aq,.string ak,.string au,.bool aL,.string aM,.string aN]] w fun e w'=>e = .returned (.agg #[.bool r1,.string r2,.string r3])/\Below w.heap.size w w':=by
 have mq:=Tryz.underlying42;have ji:=Tryz.underlying40;have HB:=qa (Below.refl w.heap.size w);unfold qQ.f at h;have H:=h;clear h;obtain⟨⟨aip,aiq,air⟩,A3,H⟩:=zo H;try dsimp only at H
 obtain⟨⟨ais,ait,aiu⟩,A4,H⟩:=zo H;try dsimp only at H
 obtain⟨⟨aiv,aiw,aix⟩,A5,H⟩:=zo H;try dsimp only at H
 simp only[Option.some.injEq,Prod.mk.injEq]at H;obtain⟨rfl,rfl,rfl⟩:=H;go_enter Tryz.func71,Tryz.ntmps71;try go_wp2_with (first|((with_reducible refine aR (N:=2) rfl ?_);refine zY 2 #[.bool af,.string aa,.string aj,.bool aI,.string aJ,.string aK] 42 ?_;intro JC hg w6 ah hb;have g_:=qa (ah);have aBJ:=zG hg HB;have aBK:=zG hg HB;replace HB:=zS HB hb;clear hb ah hg)|((with_reducible refine aR (N:=3) rfl ?_);refine zY 3 #[.bool aq,.string ak,.string au,.bool aL,.string aM,.string aN] 42 ?_;intro JD hg w7 ah hb;have iU:=qa (ah);have aBL:=zG hg HB;have aBM:=zG hg HB;obtain⟨avI,avJ⟩:=zQ hg g_;replace g_:=zB g_ hb;replace HB:=zS HB hb;clear hb ah hg)|((with_reducible refine aR (N:=4) rfl ?_);refine zY 4 #[.bool false,.string ⟨#[]⟩,.string ⟨#[]⟩] 40 ?_;intro gW hg w8 ah hb;have ru:=qa (ah);have aBN:=zG hg HB;have aBO:=zG hg HB;obtain⟨nS,UH⟩:=zQ hg g_;obtain⟨nT,UI⟩:=zQ hg iU;obtain⟨g_,iU⟩:=eo g_ iU hb;replace HB:=zS HB hb;clear hb ah hg))
 replace g_:=zD g_;replace iU:=zD iU;replace ru:=zD ru;replace HB:=zF HB;refine mg (n:=12) (S:=fun w'=>w'.cell? ⟨JC,0,none⟩=some (.bool af)/\w'.cell? ⟨JC,1,none⟩=some (.string aa)/\w'.cell? ⟨JC,2,none⟩=some (.string aj)/\w'.cell? ⟨JC,3,none⟩=some (.bool aI)/\w'.cell? ⟨JC,4,none⟩=some (.string aJ)/\w'.cell? ⟨JC,5,none⟩=some (.string aK)/\w'.cell? ⟨JD,0,none⟩=some (.bool aq)/\w'.cell? ⟨JD,1,none⟩=some (.string ak)/\w'.cell? ⟨JD,2,none⟩=some (.string au)/\w'.cell? ⟨JD,3,none⟩=some (.bool aL)/\w'.cell? ⟨JD,4,none⟩=some (.string aM)/\w'.cell? ⟨JD,5,none⟩=some (.string aN)) (ds:=[]) (zb 12 0) qk rfl rfl ⟨zc g_ 0,zc g_ 1,zc g_ 2,zc g_ 3,zc g_ 4,zc g_ 5,zc iU 0,zc iU 1,zc iU 2,zc iU 3,zc iU 4,zc iU 5⟩ (fun hHeld=>?_);refine mZ qQ.vv qQ.uU (fun av bN=>?_);generalize w8.drew=w9 at g_ iU ru HB hHeld ⊢;refine zU (i:=0) (N:=some 5) (zb 12 1) (bf av.out qk) ?_;refine zU (i:=2) (N:=some 7) (zb 12 5) (bf av.out qk) ?_;refine zU (i:=5) (N:=some 10) (zb 12 37) (bf av.out qk) ?_;refine zU (i:=7) (N:=some 12) (zb 12 165) (bf av.out qk) ?_;refine zV (i:=1) (N:=some 6) (zb 12 167) (cg av.out bN.out qk) hHeld ?_;refine zV (i:=3) (N:=some 8) (zb 12 175) (cg av.out bN.out qk) hHeld ?_;refine zV (i:=6) (N:=some 11) (zb 12 239) (cg av.out bN.out qk) hHeld ?_;refine zV (i:=8) (N:=some 13) (zb 12 495) (cg av.out bN.out qk) hHeld ?_;refine bM (i:=4) (N:=some 9) (zb 12 511) rfl rfl (bO av.out qk) qd (fun K hK=>?_);refine zJ Tryz.func65 qk (jG.calls k af aa aj aq ak au aip aiq air _ A3.out) fun gI hb=>?_;obtain⟨g_,iU,ru⟩:=bB g_ iU ru hb;replace HB:=zS HB hb
 (try clear hb)
 refine hK.out _ _ ⟨zc g_ 0,zc g_ 1,zc g_ 2,zc g_ 3,zc g_ 4,zc g_ 5,zc iU 0,zc iU 1,zc iU 2,zc iU 3,zc iU 4,zc iU 5⟩ (fun hHeld=>?_);clear hK K;refine zW (some 9) ?_;refine bM (i:=9) (N:=some 14) (zb 12 1023) rfl rfl (bO av.out qk) qd (fun K hK=>?_);refine zJ Tryz.func65 qk (jG.calls k aI aJ aK aL aM aN ais ait aiu _ A4.out) fun lV hb=>?_;obtain⟨g_,iU,ru⟩:=bB g_ iU ru hb;replace HB:=zS HB hb
 (try clear hb)
 refine hK.out _ _ ⟨zc g_ 0,zc g_ 1,zc g_ 2,zc g_ 3,zc g_ 4,zc g_ 5,zc iU 0,zc iU 1,zc iU 2,zc iU 3,zc iU 4,zc iU 5⟩ (fun hHeld=>?_);clear hK K;refine zW (some 14) ?_;refine bM (i:=10) (N:=some 15) (zb 12 2047) rfl rfl (bO av.out qk) qd (fun K hK=>?_);refine zJ Tryz.func74 qk (iQ.calls k aip aiq air ais ait aiu aiv aiw aix _ A5.out) fun gh hb=>?_;obtain⟨g_,iU,ru⟩:=bB g_ iU ru hb;replace HB:=zS HB hb
 (try clear hb)
 refine hK.out _ _ ⟨zc g_ 0,zc g_ 1,zc g_ 2,zc g_ 3,zc g_ 4,zc g_ 5,zc iU 0,zc iU 1,zc iU 2,zc iU 3,zc iU 4,zc iU 5⟩ (fun hHeld=>?_);clear hK K;refine zW (some 15) ?_;refine bM (i:=11) (N:=none) (zb 12 4095) rfl rfl (bO av.out qk) qd (fun K hK=>?_);have X0:gh.cell? ⟨gW,0,none⟩=some (.bool false):=zc ru 0;have WD:=b_ ru.out 0;have Vp:=nS.out;have Vq:=nT.out;have Vr:=UH.out;have Vs:=UI.out;have agK:gh.cell? ⟨gW,1,none⟩=some (.string ⟨#[]⟩):=zc ru 1;have aeD:=b_ ru.out 1;have abL:=nS.out;have abM:=nT.out;have abN:=UH.out;have abO:=UI.out;have agL:gh.cell? ⟨gW,2,none⟩=some (.string ⟨#[]⟩):=zc ru 2;have aeE:=b_ ru.out 2;have abP:=nS.out;have abQ:=nT.out;have abR:=UH.out;have abS:=UI.out;refine qA (w1:=?_) (by rfl) rfl ?_ ?_;rotate_left
 ·go_simp
  rfl
 refine hK.out _ _ ⟨((cell_far (p:=⟨gW,_,none⟩) nS.out _).trans (((cell_far (p:=⟨gW,_,none⟩) nS.out _).trans (((cell_far (p:=⟨gW,_,none⟩) nS.out _).trans (hHeld.1)))))),((cell_far (p:=⟨gW,_,none⟩) nS.out _).trans (((cell_far (p:=⟨gW,_,none⟩) nS.out _).trans (((cell_far (p:=⟨gW,_,none⟩) nS.out _).trans (hHeld.2.1)))))),((cell_far (p:=⟨gW,_,none⟩) nS.out _).trans (((cell_far (p:=⟨gW,_,none⟩) nS.out _).trans (((cell_far (p:=⟨gW,_,none⟩) nS.out _).trans (hHeld.2.2.1)))))),((cell_far (p:=⟨gW,_,none⟩) nS.out _).trans (((cell_far (p:=⟨gW,_,none⟩) nS.out _).trans (((cell_far (p:=⟨gW,_,none⟩) nS.out _).trans (hHeld.2.2.2.1)))))),((cell_far (p:=⟨gW,_,none⟩) nS.out _).trans (((cell_far (p:=⟨gW,_,none⟩) nS.out _).trans (((cell_far (p:=⟨gW,_,none⟩) nS.out _).trans (hHeld.2.2.2.2.1)))))),((cell_far (p:=⟨gW,_,none⟩) nS.out _).trans (((cell_far (p:=⟨gW,_,none⟩) nS.out _).trans (((cell_far (p:=⟨gW,_,none⟩) nS.out _).trans (hHeld.2.2.2.2.2.1)))))),((cell_far (p:=⟨gW,_,none⟩) nT.out _).trans (((cell_far (p:=⟨gW,_,none⟩) nT.out _).trans (((cell_far (p:=⟨gW,_,none⟩) nT.out _).trans (hHeld.2.2.2.2.2.2.1)))))),((cell_far (p:=⟨gW,_,none⟩) nT.out _).trans (((cell_far (p:=⟨gW,_,none⟩) nT.out _).trans (((cell_far (p:=⟨gW,_,none⟩) nT.out _).trans (hHeld.2.2.2.2.2.2.2.1)))))),((cell_far (p:=⟨gW,_,none⟩) nT.out _).trans (((cell_far (p:=⟨gW,_,none⟩) nT.out _).trans (((cell_far (p:=⟨gW,_,none⟩) nT.out _).trans (hHeld.2.2.2.2.2.2.2.2.1)))))),((cell_far (p:=⟨gW,_,none⟩) nT.out _).trans (((cell_far (p:=⟨gW,_,none⟩) nT.out _).trans (((cell_far (p:=⟨gW,_,none⟩) nT.out _).trans (hHeld.2.2.2.2.2.2.2.2.2.1)))))),((cell_far (p:=⟨gW,_,none⟩) nT.out _).trans (((cell_far (p:=⟨gW,_,none⟩) nT.out _).trans (((cell_far (p:=⟨gW,_,none⟩) nT.out _).trans (hHeld.2.2.2.2.2.2.2.2.2.2.1)))))),((cell_far (p:=⟨gW,_,none⟩) nT.out _).trans (((cell_far (p:=⟨gW,_,none⟩) nT.out _).trans (((cell_far (p:=⟨gW,_,none⟩) nT.out _).trans (hHeld.2.2.2.2.2.2.2.2.2.2.2))))))⟩ (fun hHeld=>?_);clear hK K;refine mh (ng av.out qk) ?_;try go_wp2
 refine bodyPost_ret (results_cell_row rfl _ _ gW 40 #[.bool aiv,.string aiw,.string aix] (0,0) _ rfl (Kx ru) Tryz.underlying40 rfl qk) rfl ?_;exact⟨zH,zT HB⟩
end Go.Proofs.aA.R
