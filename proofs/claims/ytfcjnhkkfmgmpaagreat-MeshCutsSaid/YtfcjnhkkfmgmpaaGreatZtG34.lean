import Derived.Test.YtfcjnhkkfmgmpaaGreatZtG31
set_option linter.all false
set_option maxRecDepth 100000
set_option maxHeartbeats 8000000
namespace Go.Proofs.aA.R
open Go.RowKit Go.Proofs.aA.Z Go.Proofs.aB.aZ Go.Proofs.aB.bT Go.Proofs.aB.bX
attribute [local go_sem] cm ct cz cA cj ck cu cw
def iR.j0 (F:Bool->ByteArray->Bool->ByteArray->Option (Bool × ByteArray)):Nat->Bool->Bool->ByteArray->ByteArray->Bool->ByteArray->ByteArray->Option (Bool × ByteArray × ByteArray × Int)
 | 0,_,_,_,_,_,_,_=>none
 | k+1,ZA,Pg,Ph,acv,Pj,Pk,acw=>if ZA=true then ((F Pg Ph Pj Pk).bind fun afx=>(some (afx.1,afx.2,(⟨#[1]⟩:ByteArray),0))) else ((jL.f Pj Pk acw).bind fun afy=>((pO.f Pg Ph afy.1 afy.2).bind fun afz=>((jL.f Pg Ph acv).bind fun afA=>((pO.f Pj Pk afA.1 afA.2).bind fun afB=>((F afz.1 afz.2 afB.1 afB.2).bind fun afC=>((jL.f Pg Ph acv).bind fun afD=>((jL.f Pj Pk acw).bind fun afE=>((pO.f afD.1 afD.2 afE.1 afE.2).bind fun afF=>((oU.f k afC.1 afC.2 afF.1 afF.2).bind fun W_=>(some (W_.1,W_.2.1,W_.2.2,0)))))))))))
def iR.f (F:Bool->ByteArray->Bool->ByteArray->Option (Bool × ByteArray)) (k:Nat) (af:Bool) (aa aj:ByteArray) (aq:Bool) (ak au:ByteArray):Option (Bool × ByteArray × ByteArray × Int):=(xg.f k af aa aj aq ak au).bind fun JV=>(if JV=0 then (if aj.toList=([1]:List UInt8) then (iR.j0 F k (au.toList==([1]:List UInt8)) af aa aj aq ak au) else (iR.j0 F k false af aa aj aq ak au)) else (some (false,⟨#[]⟩,⟨#[]⟩,JV)))
def iR.T6:Bool × List (List Nat × List Nat):=(true,[([],[]),([],[]),([1],[1]),([],[]),([3],[3]),([2,4,4],[2,4]),([],[]),([6],[6]),([],[]),([8,5],[8]),([7,9,9],[7,9]),([0,5,10,10],[0,5,10]),([],[]),([12,11,11,0,1,2,3,4,5,6,7,8,9,10,11,12],[11,12])])
def iR.B6:List Nat:=[0,0,2,0,8,30,0,64,0,318,1022,2047,0,8191]
theorem iR.auu:ia .any (opsOf Tryz.f112 6)=iR.T6:=by kernel_rfl
theorem iR.arq:nh iR.T6.2 iR.B6=true:=by kernel_rfl
def iR.T7:Bool × List (List Nat × List Nat):=(true,[([],[]),([],[]),([1],[1]),([],[]),([3,2],[3]),([2,4,4],[2,4]),([0,5,5],[0,5]),([6,6,0,1,2,3,4,5,6],[6]),([7,0,1,2,3,4,5,6,7],[])])
def iR.B7:List Nat:=[0,0,2,0,14,30,63,127,255]
theorem iR.RN:ia .any (opsOf Tryz.f112 7)=iR.T7:=by kernel_rfl
theorem iR.QY:nh iR.T7.2 iR.B7=true:=by kernel_rfl
theorem iR.calls (G:Nat) (F:Bool->ByteArray->Bool->ByteArray->Option (Bool × ByteArray)) (hF:aO (∀ (n:Bool) (s:ByteArray) (m:Bool) (t:ByteArray) (r1:Bool) (r2:ByteArray) (w:World),F n s m t=some (r1,r2)->Calls Tryz.prog 122 #[.func (.func G) #[] #[],.agg #[.bool n,.string s],.agg #[.bool m,.string t]] w fun e w'=>e = .returned (.agg #[.bool r1,.string r2])/\Below w.heap.size w w')) (k:Nat) (af:Bool) (aa aj:ByteArray) (aq:Bool) (ak au:ByteArray) (r1:Bool) (r2 r3:ByteArray) (r4:Int) (w:World) (h:iR.f F k af aa aj aq ak au=some (r1,r2,r3,r4)) :
  Calls Tryz.prog 112 #[.agg #[.bool af,.string aa,.string aj],.agg #[.bool aq,.string ak,.string au],.func (.func G) #[] #[]] w fun e w'=>e = .returned (.tuple #[.agg #[.bool r1,.string r2,.string r3],.int .i64 r4])/\Below w.heap.size w w':=by
 have ji:=Tryz.underlying40;have Be:=Tryz.underlying38;have xW:=ze;have BJ:=zf;have hf2:=zg;have hf3:=zh;have HB:=qa (Below.refl w.heap.size w);unfold iR.f at h;have H:=h;clear h;obtain⟨JV,A3,H⟩:=zo H;by_cases c4:JV=0
 ·rw[if_pos c4]at H
  have fW:=beq_iff_eq.mpr c4;have oY:=bne_eq_false_iff_eq.mpr c4;clear c4;have G7:=qa H;clear H;go_enter Tryz.func112,Tryz.ntmps112;go_upto_region 4 with (first|((with_reducible refine aR (N:=3) rfl ?_);refine zY 3 #[.bool af,.string aa,.string aj] 40 ?_;intro dc hg w6 ah hb;have aT:=qa (ah);have ars:=zG hg HB;have art:=zG hg HB;replace HB:=zS HB hb;clear hb ah hg)|((with_reducible refine aR (N:=4) rfl ?_);refine zY 4 #[.bool aq,.string ak,.string au] 40 ?_;intro dh hg w7 ah hb;have aU:=qa (ah);have aru:=zG hg HB;have arv:=zG hg HB;obtain⟨Ie,Ig⟩:=zQ hg aT;replace aT:=zB aT hb;replace HB:=zS HB hb;clear hb ah hg)|((with_reducible refine aR (N:=6) rfl ?_);refine zY 6 #[.bool false,.string ⟨#[]⟩,.string ⟨#[]⟩] 40 ?_;intro dS hg w8 ah hb;have bK:=qa (ah);have arw:=zG hg HB;have arx:=zG hg HB;obtain⟨pR,Ar⟩:=zQ hg aT;obtain⟨qw,Co⟩:=zQ hg aU;obtain⟨aT,aU⟩:=eo aT aU hb;replace HB:=zS HB hb;clear hb ah hg;have XY:=Ie.out;have XZ:=Ig.out;have wk:=pR.out;have wm:=Ar.out;obtain⟨tV,tW,tX,tY,tZ,t_⟩:=z3 aT;have afi:=qw.out;have afj:=Co.out;obtain⟨EY,EZ,E6,E7,E8,E9⟩:=z3 aU)|((with_reducible refine cU (f:=120) rfl ?_);refine zO Tryz.func120 qk (xg.calls k af aa aj aq ak au JV _ A3.out) fun iq hb=>?_;obtain⟨aT,aU,bK⟩:=bB aT aU bK hb;replace HB:=zS HB hb;(try clear hb)))
  (try simp only[Act.put,List.setIfInBounds_toArray,List.set_cons_zero,List.set_cons_succ])
  go_cut [24] (fun v24 wc=>∃ (kq:Nat) (Q9:Bool),v24 = .bool Q9/\aO (iR.j0 F kq Q9 af aa aj aq ak au=some (r1,r2,r3,r4))/\aO (kq<=k)/\aO (wc.heap[dc]?=some (.cells #[.bool af,.string aa,.string aj] 40 (0,0)))/\aO (wc.heap[dh]?=some (.cells #[.bool aq,.string ak,.string au] 40 (0,0)))/\aO (wc.heap[dS]?=some (.cells #[.bool false,.string ⟨#[]⟩,.string ⟨#[]⟩] 40 (0,0)))/\aO (Below w.heap.size w wc))
  case first =>
   have H:=G7.out;clear G7;by_cases c15:aj.toList=([1]:List UInt8)
   ·rw[if_pos c15]at H
    have C7:=beq_iff_eq.mpr c15;have QV:=bne_eq_false_iff_eq.mpr c15;clear c15
    (first|rw[C7]|(simp only[dL,dM];rw[C7])|skip)
    have H':=qa H;clear H;have Mh:=Ie.out;have Mi:=Ig.out;have WZ:=pR.out;have W8:=Ar.out;obtain⟨LD,LF,LG,LH,LI,LJ⟩:=z3 aT;have aes:=qw.out;have aet:=Co.out;obtain⟨ED,EE,EF,EG,EH,EI⟩:=z3 aU;go_wp2
    go_meet
    case rel=>exact⟨_,((au.toList==([1]:List UInt8))),zR,H',zL,zK aT,zK aU,zK bK,⟨zT HB⟩⟩
   ·rw[if_neg c15]at H
    have C7:=beq_eq_false_iff_ne.mpr c15;have QV:=bne_iff_ne.mpr c15
    (first|rw[C7]|(simp only[dL,dM];rw[C7])|skip)
    have H':=qa H;clear H;have L5:=Ie.out;have L6:=Ig.out;have Xa:=pR.out;have Xb:=Ar.out;obtain⟨Pm,Pn,Po,Pp,Pq,Pt⟩:=z3 aT;go_wp2
    go_meet
    case rel=>exact⟨_,(false),zR,H',zL,zK aT,zK aU,zK bK,⟨zT HB⟩⟩
  case rest =>
   clear G7;try clear c1;try clear c2;try clear p2;try clear c4;try clear fW;try clear oY;try clear c9;try clear c10;try clear c12;try clear c15;try clear C7;try clear QV;try clear c16;try clear c17;try clear c19;try clear c21;try clear N5;try clear tV;try clear tW;try clear tX;try clear EY;try clear EZ;try clear E6;try clear LD;try clear LF;try clear LG;try clear ED;try clear EE;try clear EF;try clear Pm;try clear Pn;try clear Po;try clear tY;try clear tZ;try clear t_;try clear E7;try clear E8;try clear E9;try clear LH;try clear LI;try clear LJ;try clear EG;try clear EH;try clear EI;try clear Pp;try clear Pq;try clear Pt
   obtain⟨kq,Q9,rfl,HA,Zw,aT,aU,bK,HB⟩:=hcut;cases kq with
   | zero=>exact absurd HA.out (by simp[iR.j0])
   | succ Zx =>
    have H:=HA.out;clear HA;simp only[iR.j0]at H;by_cases wS:Q9=true
    ·subst wS
     rw[if_pos rfl]at H
     obtain⟨⟨ag2,ag3⟩,Ka,H⟩:=zo H;try dsimp only at H
     simp only[Option.some.injEq,Prod.mk.injEq]at H;obtain⟨rfl,rfl,rfl,rfl⟩:=H;have ary:=Ie.out;have arz:=Ig.out;have FN:=pR.out;have FO:=Ar.out;obtain⟨Lu,Lz,Pu,LA,LC,Pv⟩:=z3 aT;have aAn:=qw.out;have aAo:=Co.out;obtain⟨aw_,aw',axa,axb,axc,axd⟩:=z3 aU;go_wp2_with (first|((with_reducible refine cU (f:=122) rfl ?_);refine zO Tryz.func122 qk (hF.out af aa aq ak ag2 ag3 _ Ka.out) fun w31 hb=>?_;obtain⟨aT,aU,bK⟩:=bB aT aU bK hb;replace HB:=zS HB hb;(try clear hb);obtain⟨acy,acz,acA,acB,acC,acD⟩:=z3 bK))
     refine bodyPost_ret (pP rfl _ _ dS 40 #[.bool ag2,.string ag3,.string (⟨#[1]⟩:ByteArray)] (0,0) _ rfl (Kx bK) Tryz.underlying40 rfl qk) rfl ?_;exact⟨zH,zT HB⟩
    ·replace wS:=Bool.eq_false_iff.mpr wS
     subst wS;rw[if_neg zn]at H
     obtain⟨⟨uy,uz⟩,Sz,H⟩:=zo H;try dsimp only at H
     obtain⟨⟨wG,wH⟩,A34,H⟩:=zo H;try dsimp only at H
     obtain⟨⟨zz,zE⟩,A35,H⟩:=zo H;try dsimp only at H
     obtain⟨⟨Dp,Dq⟩,A36,H⟩:=zo H;try dsimp only at H
     obtain⟨⟨vA,vB⟩,A37,H⟩:=zo H;try dsimp only at H
     obtain⟨⟨ag4,ag5⟩,ZJ,H⟩:=zo H;try dsimp only at H
     obtain⟨⟨ag6,ag7⟩,ZK,H⟩:=zo H;try dsimp only at H
     obtain⟨⟨ag8,ag9⟩,A40,H⟩:=zo H;try dsimp only at H
     obtain⟨⟨ag_,ag',aha⟩,A41,H⟩:=zo H;try dsimp only at H
     simp only[Option.some.injEq,Prod.mk.injEq]at H;obtain⟨rfl,rfl,rfl,rfl⟩:=H;try go_wp2
     replace aT:=zD aT;replace aU:=zD aU;replace bK:=zD bK;replace HB:=zF HB;refine mg (n:=14) (S:=fun w'=>w'.cell? ⟨dc,0,none⟩=some (.bool af)/\w'.cell? ⟨dc,1,none⟩=some (.string aa)/\w'.cell? ⟨dc,2,none⟩=some (.string aj)/\w'.cell? ⟨dh,0,none⟩=some (.bool aq)/\w'.cell? ⟨dh,1,none⟩=some (.string ak)/\w'.cell? ⟨dh,2,none⟩=some (.string au)) (ds:=[]) (zb 14 0) qk rfl rfl ⟨zc aT 0,zc aT 1,zc aT 2,zc aU 0,zc aU 1,zc aU 2⟩ (fun hHeld=>?_);refine mZ iR.auu iR.arq (fun av bN=>?_);generalize wc.drew=w42 at aT aU bK HB hHeld ⊢;refine zU (i:=0) (N:=some 32) (zb 14 1) (bf av.out qk) ?_;refine zU (i:=1) (N:=some 33) (zb 14 3) (bf av.out qk) ?_;refine zU (i:=6) (N:=some 38) (zb 14 67) (bf av.out qk) ?_;refine zV (i:=2) (N:=some 34) (zb 14 71) (cg av.out bN.out qk) hHeld ?_;refine zV (i:=3) (N:=some 35) (zb 14 79) (cg av.out bN.out qk) hHeld ?_;refine zV (i:=7) (N:=some 39) (zb 14 207) (cg av.out bN.out qk) hHeld ?_;refine zV (i:=8) (N:=some 40) (zb 14 463) (cg av.out bN.out qk) hHeld ?_;refine lO (σ:=Nat) 1 (zb 14 8191) (fun s_=>[(36,.agg #[.bool uy,.string uz]),(37,.agg #[.bool wG,.string wH]),(41,.agg #[.bool zz,.string zE]),(42,.agg #[.bool Dp,.string Dq]),(43,.agg #[.bool vA,.string vB]),(9,.pointer (some ⟨s_,0,none⟩))]) (fun s_ w'=>(w'.cell? ⟨dc,0,none⟩=some (.bool af)/\w'.cell? ⟨dc,1,none⟩=some (.string aa)/\w'.cell? ⟨dc,2,none⟩=some (.string aj)/\w'.cell? ⟨dh,0,none⟩=some (.bool aq)/\w'.cell? ⟨dh,1,none⟩=some (.string ak)/\w'.cell? ⟨dh,2,none⟩=some (.string au))/\(w'.heap[dc]?=some (.cells #[.bool af,.string aa,.string aj] 40 (0,0)))/\(w'.heap[dh]?=some (.cells #[.bool aq,.string ak,.string au] 40 (0,0)))/\(w'.heap[dS]?=some (.cells #[.bool false,.string ⟨#[]⟩,.string ⟨#[]⟩] 40 (0,0)))/\(w'.heap[s_]?=some (.cells #[.bool false,.string ⟨#[]⟩] 38 (0,0)))/\(w.heap.size<=s_)/\(w.heap.size<=s_)/\(dc≠s_)/\(s_≠dc)/\(dh≠s_)/\(s_≠dh)/\(dS≠s_)/\(s_≠dS)/\(Below w.heap.size w w')) ?_ ?_;rotate_left
     ·intro aaa
      refine lO (σ:=Unit) 2 (zb 14 4095) (fun s_=>[(36,.agg #[.bool uy,.string uz]),(37,.agg #[.bool wG,.string wH]),(41,.agg #[.bool zz,.string zE]),(42,.agg #[.bool Dp,.string Dq]),(43,.agg #[.bool vA,.string vB])]) (fun s_ w'=>(w'.cell? ⟨dc,0,none⟩=some (.bool af)/\w'.cell? ⟨dc,1,none⟩=some (.string aa)/\w'.cell? ⟨dc,2,none⟩=some (.string aj)/\w'.cell? ⟨dh,0,none⟩=some (.bool aq)/\w'.cell? ⟨dh,1,none⟩=some (.string ak)/\w'.cell? ⟨dh,2,none⟩=some (.string au))/\(w'.heap[dc]?=some (.cells #[.bool af,.string aa,.string aj] 40 (0,0)))/\(w'.heap[dh]?=some (.cells #[.bool aq,.string ak,.string au] 40 (0,0)))/\(w'.heap[dS]?=some (.cells #[.bool false,.string ⟨#[]⟩,.string ⟨#[]⟩] 40 (0,0)))/\(Below w.heap.size w w')) ?_ ?_;rotate_left
      ·intro ai4
       refine lO (σ:=Nat) 2 (zb 14 6143) (fun s_=>[(36,.agg #[.bool uy,.string uz]),(37,.agg #[.bool wG,.string wH]),(41,.agg #[.bool zz,.string zE]),(42,.agg #[.bool Dp,.string Dq]),(9,.pointer (some ⟨s_,0,none⟩))]) (fun s_ w'=>(w'.cell? ⟨dc,0,none⟩=some (.bool af)/\w'.cell? ⟨dc,1,none⟩=some (.string aa)/\w'.cell? ⟨dc,2,none⟩=some (.string aj)/\w'.cell? ⟨dh,0,none⟩=some (.bool aq)/\w'.cell? ⟨dh,1,none⟩=some (.string ak)/\w'.cell? ⟨dh,2,none⟩=some (.string au))/\(w'.heap[dc]?=some (.cells #[.bool af,.string aa,.string aj] 40 (0,0)))/\(w'.heap[dh]?=some (.cells #[.bool aq,.string ak,.string au] 40 (0,0)))/\(w'.heap[dS]?=some (.cells #[.bool false,.string ⟨#[]⟩,.string ⟨#[]⟩] 40 (0,0)))/\(w'.heap[s_]?=some (.cells #[.bool false,.string ⟨#[]⟩] 38 (0,0)))/\(w.heap.size<=s_)/\(w.heap.size<=s_)/\(dc≠s_)/\(s_≠dc)/\(dh≠s_)/\(s_≠dh)/\(dS≠s_)/\(s_≠dS)/\(Below w.heap.size w w')) ?_ ?_;rotate_left
       ·intro aaf
        refine lO (σ:=Unit) 3 (zb 14 2047) (fun s_=>[(36,.agg #[.bool uy,.string uz]),(37,.agg #[.bool wG,.string wH]),(41,.agg #[.bool zz,.string zE]),(42,.agg #[.bool Dp,.string Dq])]) (fun s_ w'=>(w'.cell? ⟨dc,0,none⟩=some (.bool af)/\w'.cell? ⟨dc,1,none⟩=some (.string aa)/\w'.cell? ⟨dc,2,none⟩=some (.string aj)/\w'.cell? ⟨dh,0,none⟩=some (.bool aq)/\w'.cell? ⟨dh,1,none⟩=some (.string ak)/\w'.cell? ⟨dh,2,none⟩=some (.string au))/\(w'.heap[dc]?=some (.cells #[.bool af,.string aa,.string aj] 40 (0,0)))/\(w'.heap[dh]?=some (.cells #[.bool aq,.string ak,.string au] 40 (0,0)))/\(w'.heap[dS]?=some (.cells #[.bool false,.string ⟨#[]⟩,.string ⟨#[]⟩] 40 (0,0)))/\(Below w.heap.size w w')) ?_ ?_;rotate_left
        ·intro ajq
         refine lO (σ:=Nat) 3 (zb 14 5119) (fun s_=>[(36,.agg #[.bool uy,.string uz]),(37,.agg #[.bool wG,.string wH]),(41,.agg #[.bool zz,.string zE]),(9,.pointer (some ⟨s_,0,none⟩))]) (fun s_ w'=>(w'.cell? ⟨dc,0,none⟩=some (.bool af)/\w'.cell? ⟨dc,1,none⟩=some (.string aa)/\w'.cell? ⟨dc,2,none⟩=some (.string aj)/\w'.cell? ⟨dh,0,none⟩=some (.bool aq)/\w'.cell? ⟨dh,1,none⟩=some (.string ak)/\w'.cell? ⟨dh,2,none⟩=some (.string au))/\(w'.heap[dc]?=some (.cells #[.bool af,.string aa,.string aj] 40 (0,0)))/\(w'.heap[dh]?=some (.cells #[.bool aq,.string ak,.string au] 40 (0,0)))/\(w'.heap[dS]?=some (.cells #[.bool false,.string ⟨#[]⟩,.string ⟨#[]⟩] 40 (0,0)))/\(w'.heap[s_]?=some (.cells #[.bool false,.string ⟨#[]⟩] 38 (0,0)))/\(w.heap.size<=s_)/\(w.heap.size<=s_)/\(dc≠s_)/\(s_≠dc)/\(dh≠s_)/\(s_≠dh)/\(dS≠s_)/\(s_≠dS)/\(Below w.heap.size w w')) ?_ ?_;rotate_left
         ·intro aav
          refine lO (σ:=Unit) 4 (zb 14 1023) (fun s_=>[(36,.agg #[.bool uy,.string uz]),(37,.agg #[.bool wG,.string wH]),(41,.agg #[.bool zz,.string zE])]) (fun s_ w'=>(w'.cell? ⟨dc,0,none⟩=some (.bool af)/\w'.cell? ⟨dc,1,none⟩=some (.string aa)/\w'.cell? ⟨dc,2,none⟩=some (.string aj)/\w'.cell? ⟨dh,0,none⟩=some (.bool aq)/\w'.cell? ⟨dh,1,none⟩=some (.string ak)/\w'.cell? ⟨dh,2,none⟩=some (.string au))/\(w'.heap[dc]?=some (.cells #[.bool af,.string aa,.string aj] 40 (0,0)))/\(w'.heap[dh]?=some (.cells #[.bool aq,.string ak,.string au] 40 (0,0)))/\(w'.heap[dS]?=some (.cells #[.bool false,.string ⟨#[]⟩,.string ⟨#[]⟩] 40 (0,0)))/\(Below w.heap.size w w')) ?_ ?_;rotate_left
          ·intro amZ
           refine lO (σ:=Nat) 4 (zb 14 4607) (fun s_=>[(36,.agg #[.bool uy,.string uz]),(37,.agg #[.bool wG,.string wH]),(9,.pointer (some ⟨s_,0,none⟩))]) (fun s_ w'=>(w'.cell? ⟨dc,0,none⟩=some (.bool af)/\w'.cell? ⟨dc,1,none⟩=some (.string aa)/\w'.cell? ⟨dc,2,none⟩=some (.string aj)/\w'.cell? ⟨dh,0,none⟩=some (.bool aq)/\w'.cell? ⟨dh,1,none⟩=some (.string ak)/\w'.cell? ⟨dh,2,none⟩=some (.string au))/\(w'.heap[dc]?=some (.cells #[.bool af,.string aa,.string aj] 40 (0,0)))/\(w'.heap[dh]?=some (.cells #[.bool aq,.string ak,.string au] 40 (0,0)))/\(w'.heap[dS]?=some (.cells #[.bool false,.string ⟨#[]⟩,.string ⟨#[]⟩] 40 (0,0)))/\(w'.heap[s_]?=some (.cells #[.bool false,.string ⟨#[]⟩] 38 (0,0)))/\(w.heap.size<=s_)/\(w.heap.size<=s_)/\(dc≠s_)/\(s_≠dc)/\(dh≠s_)/\(s_≠dh)/\(dS≠s_)/\(s_≠dS)/\(Below w.heap.size w w')) ?_ ?_;rotate_left
           ·intro aa'
            refine lO (σ:=Unit) 5 (zb 14 511) (fun s_=>[(36,.agg #[.bool uy,.string uz]),(37,.agg #[.bool wG,.string wH])]) (fun s_ w'=>(w'.cell? ⟨dc,0,none⟩=some (.bool af)/\w'.cell? ⟨dc,1,none⟩=some (.string aa)/\w'.cell? ⟨dc,2,none⟩=some (.string aj)/\w'.cell? ⟨dh,0,none⟩=some (.bool aq)/\w'.cell? ⟨dh,1,none⟩=some (.string ak)/\w'.cell? ⟨dh,2,none⟩=some (.string au))/\(w'.heap[dc]?=some (.cells #[.bool af,.string aa,.string aj] 40 (0,0)))/\(w'.heap[dh]?=some (.cells #[.bool aq,.string ak,.string au] 40 (0,0)))/\(w'.heap[dS]?=some (.cells #[.bool false,.string ⟨#[]⟩,.string ⟨#[]⟩] 40 (0,0)))/\(Below w.heap.size w w')) ?_ ?_;rotate_left
            ·intro arA
             refine lO (σ:=Nat) 5 (zb 14 4575) (fun s_=>[(36,.agg #[.bool uy,.string uz]),(9,.pointer (some ⟨s_,0,none⟩))]) (fun s_ w'=>(w'.cell? ⟨dc,0,none⟩=some (.bool af)/\w'.cell? ⟨dc,1,none⟩=some (.string aa)/\w'.cell? ⟨dc,2,none⟩=some (.string aj)/\w'.cell? ⟨dh,0,none⟩=some (.bool aq)/\w'.cell? ⟨dh,1,none⟩=some (.string ak)/\w'.cell? ⟨dh,2,none⟩=some (.string au))/\(w'.heap[dc]?=some (.cells #[.bool af,.string aa,.string aj] 40 (0,0)))/\(w'.heap[dh]?=some (.cells #[.bool aq,.string ak,.string au] 40 (0,0)))/\(w'.heap[dS]?=some (.cells #[.bool false,.string ⟨#[]⟩,.string ⟨#[]⟩] 40 (0,0)))/\(w'.heap[s_]?=some (.cells #[.bool false,.string ⟨#[]⟩] 38 (0,0)))/\(w.heap.size<=s_)/\(w.heap.size<=s_)/\(dc≠s_)/\(s_≠dc)/\(dh≠s_)/\(s_≠dh)/\(dS≠s_)/\(s_≠dS)/\(Below w.heap.size w w')) ?_ ?_;rotate_left
             ·intro adI
              refine lO (σ:=Unit) 6 (zb 14 479) (fun s_=>[(36,.agg #[.bool uy,.string uz])]) (fun s_ w'=>(w'.cell? ⟨dc,0,none⟩=some (.bool af)/\w'.cell? ⟨dc,1,none⟩=some (.string aa)/\w'.cell? ⟨dc,2,none⟩=some (.string aj)/\w'.cell? ⟨dh,0,none⟩=some (.bool aq)/\w'.cell? ⟨dh,1,none⟩=some (.string ak)/\w'.cell? ⟨dh,2,none⟩=some (.string au))/\(w'.heap[dc]?=some (.cells #[.bool af,.string aa,.string aj] 40 (0,0)))/\(w'.heap[dh]?=some (.cells #[.bool aq,.string ak,.string au] 40 (0,0)))/\(w'.heap[dS]?=some (.cells #[.bool false,.string ⟨#[]⟩,.string ⟨#[]⟩] 40 (0,0)))/\(Below w.heap.size w w')) ?_ ?_;rotate_left
              ·intro hJ4
               refine lO (σ:=Nat) 6 (zb 14 4559) (fun s_=>[(9,.pointer (some ⟨s_,0,none⟩))]) (fun s_ w'=>(w'.cell? ⟨dc,0,none⟩=some (.bool af)/\w'.cell? ⟨dc,1,none⟩=some (.string aa)/\w'.cell? ⟨dc,2,none⟩=some (.string aj)/\w'.cell? ⟨dh,0,none⟩=some (.bool aq)/\w'.cell? ⟨dh,1,none⟩=some (.string ak)/\w'.cell? ⟨dh,2,none⟩=some (.string au))/\(w'.heap[dc]?=some (.cells #[.bool af,.string aa,.string aj] 40 (0,0)))/\(w'.heap[dh]?=some (.cells #[.bool aq,.string ak,.string au] 40 (0,0)))/\(w'.heap[dS]?=some (.cells #[.bool false,.string ⟨#[]⟩,.string ⟨#[]⟩] 40 (0,0)))/\(w'.heap[s_]?=some (.cells #[.bool false,.string ⟨#[]⟩] 38 (0,0)))/\(w.heap.size<=s_)/\(w.heap.size<=s_)/\(dc≠s_)/\(s_≠dc)/\(dh≠s_)/\(s_≠dh)/\(dS≠s_)/\(s_≠dS)/\(Below w.heap.size w w')) ?_ ?_;rotate_left
               ·intro auv
                refine qB (i:=4) (j:=12) (Ni:=some 36) (Nj:=some 9) (zb 14 479) (zb 14 4559) rfl rfl rfl rfl (qy av.out qk) qd qd (fun K hK=>?_) (fun K hK=>?_)
                ·skip
                 refine zJ Tryz.func108 qk (jL.calls aq ak au uy uz _ Sz.out) fun ZL hb=>?_;obtain⟨aT,aU,bK⟩:=bB aT aU bK hb;replace HB:=zS HB hb
                 (try clear hb)
                 refine hK.out _ _ ⟨zc aT 0,zc aT 1,zc aT 2,zc aU 0,zc aU 1,zc aU 2⟩ (fun hHeld=>?_);clear hK K;refine zW (some 36) ?_;exact zA (hJ4 () _ ⟨hHeld,(zK aT).out,(zK aU).out,(zK bK).out,(zT HB)⟩)
                ·skip
                 refine m_ ?hg (N:=9) ?hd (cs:=#[.bool false,.string ⟨#[]⟩]) (t:=38) ?hr ?_;(case hd=>rfl);(case hg=>rfl);(case hr=>first|(go_simp;done)|(go_simp;rfl))
                 intro eE hg ZL ah hb;have dH:=qa (ah);have nB:=zG hg HB;have nC:=zG hg HB;obtain⟨jT,l8⟩:=zQ hg aT;obtain⟨jU,l9⟩:=zQ hg aU;obtain⟨kW,jq⟩:=zQ hg bK;obtain⟨aT,aU,bK⟩:=bB aT aU bK hb;replace HB:=zS HB hb;clear hb ah hg;refine hK.out _ _ ⟨zc aT 0,zc aT 1,zc aT 2,zc aU 0,zc aU 1,zc aU 2⟩ (fun hHeld=>?_);clear hK K;refine zW (some 9) ?_;exact zA (auv (eE) _ ⟨hHeld,(zK aT).out,(zK aU).out,(zK bK).out,(zK dH).out,nB.out,nC.out,jT.out,l8.out,jU.out,l9.out,kW.out,jq.out,(zT HB)⟩)
               ·skip
                rintro eE Kf ⟨eP,cE,cF,cG,cH,fZ,f_,gf,iJ,iK,iL,iB,iC,iD⟩;replace aT:=qa cE;replace aU:=qa cF;replace bK:=qa cG;have dH:=qa cH;have nB:=qa fZ;have nC:=qa f_;have jT:=qa gf;have l8:=qa iJ;have jU:=qa iK;have l9:=qa iL;have kW:=qa iB;have jq:=qa iC;replace HB:=qa iD;clear cE cF cG cH fZ f_ gf iJ iK iL iB iC iD;have hHeld:=eP;refine iP (a':=?_) ?_ ?_;rotate_left
                ·simp only[gR,Act.put,List.setIfInBounds_toArray,List.set_cons_zero,List.set_cons_succ]
                 rfl
                refine bM (i:=4) (N:=some 36) (zb 14 4575) rfl rfl (bO av.out qk) qd (fun K hK=>?_);refine zJ Tryz.func108 qk (jL.calls aq ak au uy uz _ Sz.out) fun D_ hb=>?_;obtain⟨aT,aU,bK,dH⟩:=kR aT aU bK dH hb;replace HB:=zS HB hb
                (try clear hb)
                refine hK.out _ _ ⟨zc aT 0,zc aT 1,zc aT 2,zc aU 0,zc aU 1,zc aU 2⟩ (fun hHeld=>?_);clear hK K;refine zW (some 36) ?_;exact zA (adI (eE) _ ⟨hHeld,(zK aT).out,(zK aU).out,(zK bK).out,(zK dH).out,nB.out,nC.out,jT.out,l8.out,jU.out,l9.out,kW.out,jq.out,(zT HB)⟩)
              ·skip
               rintro _ Kf ⟨eP,cE,cF,cG,cH⟩;replace aT:=qa cE;replace aU:=qa cF;replace bK:=qa cG;replace HB:=qa cH;clear cE cF cG cH;have hHeld:=eP;refine iP (a':=?_) ?_ ?_;rotate_left
               ·simp only[gR,Act.put,List.setIfInBounds_toArray,List.set_cons_zero,List.set_cons_succ]
                rfl
               refine qB (i:=5) (j:=12) (Ni:=some 37) (Nj:=some 9) (zb 14 511) (zb 14 4575) rfl rfl rfl rfl (qy av.out qk) qd qd (fun K hK=>?_) (fun K hK=>?_)
               ·skip
                refine zJ Tryz.func122 qk (pO.calls af aa uy uz wG wH _ A34.out) fun D_ hb=>?_;obtain⟨aT,aU,bK⟩:=bB aT aU bK hb;replace HB:=zS HB hb
                (try clear hb)
                refine hK.out _ _ ⟨zc aT 0,zc aT 1,zc aT 2,zc aU 0,zc aU 1,zc aU 2⟩ (fun hHeld=>?_);clear hK K;refine zW (some 37) ?_;exact zA (arA () _ ⟨hHeld,(zK aT).out,(zK aU).out,(zK bK).out,(zT HB)⟩)
               ·skip
                refine m_ ?hg (N:=9) ?hd (cs:=#[.bool false,.string ⟨#[]⟩]) (t:=38) ?hr ?_;(case hd=>rfl);(case hg=>rfl);(case hr=>first|(go_simp;done)|(go_simp;rfl))
                intro eE hg D_ ah hb;have dH:=qa (ah);have nB:=zG hg HB;have nC:=zG hg HB;obtain⟨jT,l8⟩:=zQ hg aT;obtain⟨jU,l9⟩:=zQ hg aU;obtain⟨kW,jq⟩:=zQ hg bK;obtain⟨aT,aU,bK⟩:=bB aT aU bK hb;replace HB:=zS HB hb;clear hb ah hg;refine hK.out _ _ ⟨zc aT 0,zc aT 1,zc aT 2,zc aU 0,zc aU 1,zc aU 2⟩ (fun hHeld=>?_);clear hK K;refine zW (some 9) ?_;exact zA (adI (eE) _ ⟨hHeld,(zK aT).out,(zK aU).out,(zK bK).out,(zK dH).out,nB.out,nC.out,jT.out,l8.out,jU.out,l9.out,kW.out,jq.out,(zT HB)⟩)
             ·skip
              rintro eE D_ ⟨eP,cE,cF,cG,cH,fZ,f_,gf,iJ,iK,iL,iB,iC,iD⟩;replace aT:=qa cE;replace aU:=qa cF;replace bK:=qa cG;have dH:=qa cH;have nB:=qa fZ;have nC:=qa f_;have jT:=qa gf;have l8:=qa iJ;have jU:=qa iK;have l9:=qa iL;have kW:=qa iB;have jq:=qa iC;replace HB:=qa iD;clear cE cF cG cH fZ f_ gf iJ iK iL iB iC iD;have hHeld:=eP;refine iP (a':=?_) ?_ ?_;rotate_left
              ·simp only[gR,Act.put,List.setIfInBounds_toArray,List.set_cons_zero,List.set_cons_succ]
               rfl
              refine bM (i:=5) (N:=some 37) (zb 14 4607) rfl rfl (bO av.out qk) qd (fun K hK=>?_);refine zJ Tryz.func122 qk (pO.calls af aa uy uz wG wH _ A34.out) fun BS hb=>?_;obtain⟨aT,aU,bK,dH⟩:=kR aT aU bK dH hb;replace HB:=zS HB hb
              (try clear hb)
              refine hK.out _ _ ⟨zc aT 0,zc aT 1,zc aT 2,zc aU 0,zc aU 1,zc aU 2⟩ (fun hHeld=>?_);clear hK K;refine zW (some 37) ?_;exact zA (aa' (eE) _ ⟨hHeld,(zK aT).out,(zK aU).out,(zK bK).out,(zK dH).out,nB.out,nC.out,jT.out,l8.out,jU.out,l9.out,kW.out,jq.out,(zT HB)⟩)
            ·skip
             rintro _ D_ ⟨eP,cE,cF,cG,cH⟩;replace aT:=qa cE;replace aU:=qa cF;replace bK:=qa cG;replace HB:=qa cH;clear cE cF cG cH;have hHeld:=eP;refine iP (a':=?_) ?_ ?_;rotate_left
             ·simp only[gR,Act.put,List.setIfInBounds_toArray,List.set_cons_zero,List.set_cons_succ]
              rfl
             refine qB (i:=9) (j:=12) (Ni:=some 41) (Nj:=some 9) (zb 14 1023) (zb 14 4607) rfl rfl rfl rfl (qy av.out qk) qd qd (fun K hK=>?_) (fun K hK=>?_)
             ·skip
              refine zJ Tryz.func108 qk (jL.calls af aa aj zz zE _ A35.out) fun BS hb=>?_;obtain⟨aT,aU,bK⟩:=bB aT aU bK hb;replace HB:=zS HB hb
              (try clear hb)
              refine hK.out _ _ ⟨zc aT 0,zc aT 1,zc aT 2,zc aU 0,zc aU 1,zc aU 2⟩ (fun hHeld=>?_);clear hK K;refine zW (some 41) ?_;exact zA (amZ () _ ⟨hHeld,(zK aT).out,(zK aU).out,(zK bK).out,(zT HB)⟩)
             ·skip
              refine m_ ?hg (N:=9) ?hd (cs:=#[.bool false,.string ⟨#[]⟩]) (t:=38) ?hr ?_;(case hd=>rfl);(case hg=>rfl);(case hr=>first|(go_simp;done)|(go_simp;rfl))
              intro eE hg BS ah hb;have dH:=qa (ah);have nB:=zG hg HB;have nC:=zG hg HB;obtain⟨jT,l8⟩:=zQ hg aT;obtain⟨jU,l9⟩:=zQ hg aU;obtain⟨kW,jq⟩:=zQ hg bK;obtain⟨aT,aU,bK⟩:=bB aT aU bK hb;replace HB:=zS HB hb;clear hb ah hg;refine hK.out _ _ ⟨zc aT 0,zc aT 1,zc aT 2,zc aU 0,zc aU 1,zc aU 2⟩ (fun hHeld=>?_);clear hK K;refine zW (some 9) ?_;exact zA (aa' (eE) _ ⟨hHeld,(zK aT).out,(zK aU).out,(zK bK).out,(zK dH).out,nB.out,nC.out,jT.out,l8.out,jU.out,l9.out,kW.out,jq.out,(zT HB)⟩)
           ·skip
            rintro eE BS ⟨eP,cE,cF,cG,cH,fZ,f_,gf,iJ,iK,iL,iB,iC,iD⟩;replace aT:=qa cE;replace aU:=qa cF;replace bK:=qa cG;have dH:=qa cH;have nB:=qa fZ;have nC:=qa f_;have jT:=qa gf;have l8:=qa iJ;have jU:=qa iK;have l9:=qa iL;have kW:=qa iB;have jq:=qa iC;replace HB:=qa iD;clear cE cF cG cH fZ f_ gf iJ iK iL iB iC iD;have hHeld:=eP;refine iP (a':=?_) ?_ ?_;rotate_left
            ·simp only[gR,Act.put,List.setIfInBounds_toArray,List.set_cons_zero,List.set_cons_succ]
             rfl
            refine bM (i:=9) (N:=some 41) (zb 14 5119) rfl rfl (bO av.out qk) qd (fun K hK=>?_);refine zJ Tryz.func108 qk (jL.calls af aa aj zz zE _ A35.out) fun Ea hb=>?_;obtain⟨aT,aU,bK,dH⟩:=kR aT aU bK dH hb;replace HB:=zS HB hb
            (try clear hb)
            refine hK.out _ _ ⟨zc aT 0,zc aT 1,zc aT 2,zc aU 0,zc aU 1,zc aU 2⟩ (fun hHeld=>?_);clear hK K;refine zW (some 41) ?_;exact zA (aav (eE) _ ⟨hHeld,(zK aT).out,(zK aU).out,(zK bK).out,(zK dH).out,nB.out,nC.out,jT.out,l8.out,jU.out,l9.out,kW.out,jq.out,(zT HB)⟩)
          ·skip
           rintro _ BS ⟨eP,cE,cF,cG,cH⟩;replace aT:=qa cE;replace aU:=qa cF;replace bK:=qa cG;replace HB:=qa cH;clear cE cF cG cH;have hHeld:=eP;refine iP (a':=?_) ?_ ?_;rotate_left
           ·simp only[gR,Act.put,List.setIfInBounds_toArray,List.set_cons_zero,List.set_cons_succ]
            rfl
           refine qB (i:=10) (j:=12) (Ni:=some 42) (Nj:=some 9) (zb 14 2047) (zb 14 5119) rfl rfl rfl rfl (qy av.out qk) qd qd (fun K hK=>?_) (fun K hK=>?_)
           ·skip
            refine zJ Tryz.func122 qk (pO.calls aq ak zz zE Dp Dq _ A36.out) fun Ea hb=>?_;obtain⟨aT,aU,bK⟩:=bB aT aU bK hb;replace HB:=zS HB hb
            (try clear hb)
            refine hK.out _ _ ⟨zc aT 0,zc aT 1,zc aT 2,zc aU 0,zc aU 1,zc aU 2⟩ (fun hHeld=>?_);clear hK K;refine zW (some 42) ?_;exact zA (ajq () _ ⟨hHeld,(zK aT).out,(zK aU).out,(zK bK).out,(zT HB)⟩)
           ·skip
            refine m_ ?hg (N:=9) ?hd (cs:=#[.bool false,.string ⟨#[]⟩]) (t:=38) ?hr ?_;(case hd=>rfl);(case hg=>rfl);(case hr=>first|(go_simp;done)|(go_simp;rfl))
            intro eE hg Ea ah hb;have dH:=qa (ah);have nB:=zG hg HB;have nC:=zG hg HB;obtain⟨jT,l8⟩:=zQ hg aT;obtain⟨jU,l9⟩:=zQ hg aU;obtain⟨kW,jq⟩:=zQ hg bK;obtain⟨aT,aU,bK⟩:=bB aT aU bK hb;replace HB:=zS HB hb;clear hb ah hg;refine hK.out _ _ ⟨zc aT 0,zc aT 1,zc aT 2,zc aU 0,zc aU 1,zc aU 2⟩ (fun hHeld=>?_);clear hK K;refine zW (some 9) ?_;exact zA (aav (eE) _ ⟨hHeld,(zK aT).out,(zK aU).out,(zK bK).out,(zK dH).out,nB.out,nC.out,jT.out,l8.out,jU.out,l9.out,kW.out,jq.out,(zT HB)⟩)
         ·skip
          rintro eE Ea ⟨eP,cE,cF,cG,cH,fZ,f_,gf,iJ,iK,iL,iB,iC,iD⟩;replace aT:=qa cE;replace aU:=qa cF;replace bK:=qa cG;have dH:=qa cH;have nB:=qa fZ;have nC:=qa f_;have jT:=qa gf;have l8:=qa iJ;have jU:=qa iK;have l9:=qa iL;have kW:=qa iB;have jq:=qa iC;replace HB:=qa iD;clear cE cF cG cH fZ f_ gf iJ iK iL iB iC iD;have hHeld:=eP;refine iP (a':=?_) ?_ ?_;rotate_left
          ·simp only[gR,Act.put,List.setIfInBounds_toArray,List.set_cons_zero,List.set_cons_succ]
           rfl
          refine bM (i:=10) (N:=some 42) (zb 14 6143) rfl rfl (bO av.out qk) qd (fun K hK=>?_);refine zJ Tryz.func122 qk (pO.calls aq ak zz zE Dp Dq _ A36.out) fun Eb hb=>?_;obtain⟨aT,aU,bK,dH⟩:=kR aT aU bK dH hb;replace HB:=zS HB hb
          (try clear hb)
          refine hK.out _ _ ⟨zc aT 0,zc aT 1,zc aT 2,zc aU 0,zc aU 1,zc aU 2⟩ (fun hHeld=>?_);clear hK K;refine zW (some 42) ?_;exact zA (aaf (eE) _ ⟨hHeld,(zK aT).out,(zK aU).out,(zK bK).out,(zK dH).out,nB.out,nC.out,jT.out,l8.out,jU.out,l9.out,kW.out,jq.out,(zT HB)⟩)
        ·skip
         rintro _ Ea ⟨eP,cE,cF,cG,cH⟩;replace aT:=qa cE;replace aU:=qa cF;replace bK:=qa cG;replace HB:=qa cH;clear cE cF cG cH;have hHeld:=eP;refine iP (a':=?_) ?_ ?_;rotate_left
         ·simp only[gR,Act.put,List.setIfInBounds_toArray,List.set_cons_zero,List.set_cons_succ]
          rfl
         refine qB (i:=11) (j:=12) (Ni:=some 43) (Nj:=some 9) (zb 14 4095) (zb 14 6143) rfl rfl rfl rfl (qy av.out qk) qd qd (fun K hK=>?_) (fun K hK=>?_)
         ·skip
          refine zJ Tryz.func122 qk (hF.out wG wH Dp Dq vA vB _ A37.out) fun Eb hb=>?_;obtain⟨aT,aU,bK⟩:=bB aT aU bK hb;replace HB:=zS HB hb
          (try clear hb)
          refine hK.out _ _ ⟨zc aT 0,zc aT 1,zc aT 2,zc aU 0,zc aU 1,zc aU 2⟩ (fun hHeld=>?_);clear hK K;refine zW (some 43) ?_;exact zA (ai4 () _ ⟨hHeld,(zK aT).out,(zK aU).out,(zK bK).out,(zT HB)⟩)
         ·skip
          refine m_ ?hg (N:=9) ?hd (cs:=#[.bool false,.string ⟨#[]⟩]) (t:=38) ?hr ?_;(case hd=>rfl);(case hg=>rfl);(case hr=>first|(go_simp;done)|(go_simp;rfl))
          intro eE hg Eb ah hb;have dH:=qa (ah);have nB:=zG hg HB;have nC:=zG hg HB;obtain⟨jT,l8⟩:=zQ hg aT;obtain⟨jU,l9⟩:=zQ hg aU;obtain⟨kW,jq⟩:=zQ hg bK;obtain⟨aT,aU,bK⟩:=bB aT aU bK hb;replace HB:=zS HB hb;clear hb ah hg;refine hK.out _ _ ⟨zc aT 0,zc aT 1,zc aT 2,zc aU 0,zc aU 1,zc aU 2⟩ (fun hHeld=>?_);clear hK K;refine zW (some 9) ?_;exact zA (aaf (eE) _ ⟨hHeld,(zK aT).out,(zK aU).out,(zK bK).out,(zK dH).out,nB.out,nC.out,jT.out,l8.out,jU.out,l9.out,kW.out,jq.out,(zT HB)⟩)
       ·skip
        rintro eE Eb ⟨eP,cE,cF,cG,cH,fZ,f_,gf,iJ,iK,iL,iB,iC,iD⟩;replace aT:=qa cE;replace aU:=qa cF;replace bK:=qa cG;have dH:=qa cH;have nB:=qa fZ;have nC:=qa f_;have jT:=qa gf;have l8:=qa iJ;have jU:=qa iK;have l9:=qa iL;have kW:=qa iB;have jq:=qa iC;replace HB:=qa iD;clear cE cF cG cH fZ f_ gf iJ iK iL iB iC iD;have hHeld:=eP;refine iP (a':=?_) ?_ ?_;rotate_left
        ·simp only[gR,Act.put,List.setIfInBounds_toArray,List.set_cons_zero,List.set_cons_succ]
         rfl
        refine bM (i:=11) (N:=some 43) (zb 14 8191) rfl rfl (bO av.out qk) qd (fun K hK=>?_);refine zJ Tryz.func122 qk (hF.out wG wH Dp Dq vA vB _ A37.out) fun uF hb=>?_;obtain⟨aT,aU,bK,dH⟩:=kR aT aU bK dH hb;replace HB:=zS HB hb
        (try clear hb)
        refine hK.out _ _ ⟨zc aT 0,zc aT 1,zc aT 2,zc aU 0,zc aU 1,zc aU 2⟩ (fun hHeld=>?_);clear hK K;refine zW (some 43) ?_;exact zA (aaa (eE) _ ⟨hHeld,(zK aT).out,(zK aU).out,(zK bK).out,(zK dH).out,nB.out,nC.out,jT.out,l8.out,jU.out,l9.out,kW.out,jq.out,(zT HB)⟩)
      ·skip
       rintro _ Eb ⟨eP,cE,cF,cG,cH⟩;replace aT:=qa cE;replace aU:=qa cF;replace bK:=qa cG;replace HB:=qa cH;clear cE cF cG cH;have hHeld:=eP;refine iP (a':=?_) ?_ ?_;rotate_left
       ·simp only[gR,Act.put,List.setIfInBounds_toArray,List.set_cons_zero,List.set_cons_succ]
        rfl
       refine bM (i:=12) (N:=some 9) (zb 14 8191) rfl rfl (bO av.out qk) qd (fun K hK=>?_);refine m_ ?hg (N:=9) ?hd (cs:=#[.bool false,.string ⟨#[]⟩]) (t:=38) ?hr ?_;(case hd=>rfl);(case hg=>rfl);(case hr=>first|(go_simp;done)|(go_simp;rfl))
       intro eE hg uF ah hb;have dH:=qa (ah);have nB:=zG hg HB;have nC:=zG hg HB;obtain⟨jT,l8⟩:=zQ hg aT;obtain⟨jU,l9⟩:=zQ hg aU;obtain⟨kW,jq⟩:=zQ hg bK;obtain⟨aT,aU,bK⟩:=bB aT aU bK hb;replace HB:=zS HB hb;clear hb ah hg;refine hK.out _ _ ⟨zc aT 0,zc aT 1,zc aT 2,zc aU 0,zc aU 1,zc aU 2⟩ (fun hHeld=>?_);clear hK K;refine zW (some 9) ?_;exact zA (aaa (eE) _ ⟨hHeld,(zK aT).out,(zK aU).out,(zK bK).out,(zK dH).out,nB.out,nC.out,jT.out,l8.out,jU.out,l9.out,kW.out,jq.out,(zT HB)⟩)
     rintro eE uF ⟨eP,cE,cF,cG,cH,fZ,f_,gf,iJ,iK,iL,iB,iC,iD⟩;replace aT:=qa cE;replace aU:=qa cF;replace bK:=qa cG;have dH:=qa cH;have nB:=qa fZ;have nC:=qa f_;have jT:=qa gf;have l8:=qa iJ;have jU:=qa iK;have l9:=qa iL;have kW:=qa iB;have jq:=qa iC;replace HB:=qa iD;clear cE cF cG cH fZ f_ gf iJ iK iL iB iC iD;have hHeld:=eP;refine iP (a':=?_) ?_ ?_;rotate_left
     ·simp only[gR,Act.put,List.setIfInBounds_toArray,List.set_cons_zero,List.set_cons_succ]
      rfl
     refine bM (i:=13) (N:=none) (zb 14 16383) rfl rfl (bO av.out qk) qd (fun K hK=>?_);have agH:uF.cell? ⟨eE,0,none⟩=some (.bool false):=zc dH 0;have aeu:=b_ dH.out 0;have abB:=jT.out;have alT:=jU.out;have axe:=kW.out;have abC:=l8.out;have alU:=l9.out;have axf:=jq.out;have at4:uF.cell? ⟨eE,1,none⟩=some (.string ⟨#[]⟩):=zc dH 1;have aqo:=b_ dH.out 1;have alV:=jT.out;have alW:=jU.out;have axg:=kW.out;have alX:=l8.out;have alY:=l9.out;have axh:=jq.out;refine qA (w1:=?_) (by rfl) rfl ?_ ?_;rotate_left
     ·go_simp
      rfl
     refine hK.out _ _ ⟨((cell_far (p:=⟨eE,_,none⟩) jT.out _).trans (((cell_far (p:=⟨eE,_,none⟩) jT.out _).trans (hHeld.1)))),((cell_far (p:=⟨eE,_,none⟩) jT.out _).trans (((cell_far (p:=⟨eE,_,none⟩) jT.out _).trans (hHeld.2.1)))),((cell_far (p:=⟨eE,_,none⟩) jT.out _).trans (((cell_far (p:=⟨eE,_,none⟩) jT.out _).trans (hHeld.2.2.1)))),((cell_far (p:=⟨eE,_,none⟩) jU.out _).trans (((cell_far (p:=⟨eE,_,none⟩) jU.out _).trans (hHeld.2.2.2.1)))),((cell_far (p:=⟨eE,_,none⟩) jU.out _).trans (((cell_far (p:=⟨eE,_,none⟩) jU.out _).trans (hHeld.2.2.2.2.1)))),((cell_far (p:=⟨eE,_,none⟩) jU.out _).trans (((cell_far (p:=⟨eE,_,none⟩) jU.out _).trans (hHeld.2.2.2.2.2))))⟩ (fun hHeld=>?_);clear hK K;refine mh (ng av.out qk) ?_;try go_wp2
     have G6:aO (((uF.setCell ⟨eE,0,none⟩ (.bool vA)).setCell ⟨eE,1,none⟩ (.string vB)).heap[dc]?=some (.cells #[.bool af,.string aa,.string aj] 40 (0,0))):=zK aT;have gy:aO (((uF.setCell ⟨eE,0,none⟩ (.bool vA)).setCell ⟨eE,1,none⟩ (.string vB)).heap[dh]?=some (.cells #[.bool aq,.string ak,.string au] 40 (0,0))):=zK aU;have iV:aO (((uF.setCell ⟨eE,0,none⟩ (.bool vA)).setCell ⟨eE,1,none⟩ (.string vB)).heap[dS]?=some (.cells #[.bool false,.string ⟨#[]⟩,.string ⟨#[]⟩] 40 (0,0))):=zK bK;have rH:aO (((uF.setCell ⟨eE,0,none⟩ (.bool vA)).setCell ⟨eE,1,none⟩ (.string vB)).heap[eE]?=some (.cells #[.bool vA,.string vB] 38 (0,0))):=⟨Kx dH⟩;have qK:aO (Below w.heap.size w ((uF.setCell ⟨eE,0,none⟩ (.bool vA)).setCell ⟨eE,1,none⟩ (.string vB))):=⟨zT HB⟩
     (try clear aT)
     (try clear aU)
     (try clear bK)
     (try clear dH)
     (try clear HB)
     generalize ((uF.setCell ⟨eE,0,none⟩ (.bool vA)).setCell ⟨eE,1,none⟩ (.string vB))=w52 at G6 gy iV rH qK ⊢;have aT:=G6;have aU:=gy;have bK:=iV;have dH:=rH;have HB:=qK;clear G6 gy iV rH qK;replace aT:=zD aT;replace aU:=zD aU;replace bK:=zD bK;replace dH:=zD dH;replace HB:=zF HB;refine mg (n:=9) (S:=fun w'=>w'.cell? ⟨eE,0,none⟩=some (.bool vA)/\w'.cell? ⟨eE,1,none⟩=some (.string vB)/\w'.cell? ⟨dc,0,none⟩=some (.bool af)/\w'.cell? ⟨dc,1,none⟩=some (.string aa)/\w'.cell? ⟨dc,2,none⟩=some (.string aj)/\w'.cell? ⟨dh,0,none⟩=some (.bool aq)/\w'.cell? ⟨dh,1,none⟩=some (.string ak)/\w'.cell? ⟨dh,2,none⟩=some (.string au)) (ds:=[]) (zb 9 0) qk rfl rfl ⟨zc dH 0,zc dH 1,zc aT 0,zc aT 1,zc aT 2,zc aU 0,zc aU 1,zc aU 2⟩ (fun hHeld=>?_);refine mZ iR.RN iR.QY (fun av bN=>?_);generalize w52.drew=w53 at aT aU bK dH HB hHeld ⊢;refine zV (i:=0) (N:=some 44) (zb 9 1) (cg av.out bN.out qk) hHeld ?_;refine zV (i:=1) (N:=some 45) (zb 9 3) (cg av.out bN.out qk) hHeld ?_;refine zV (i:=3) (N:=some 47) (zb 9 11) (cg av.out bN.out qk) hHeld ?_;refine bM (i:=2) (N:=some 46) (zb 9 15) rfl rfl (bO av.out qk) qd (fun K hK=>?_);refine zJ Tryz.func108 qk (jL.calls af aa aj ag4 ag5 _ ZJ.out) fun w54 hb=>?_;obtain⟨aT,aU,bK,dH⟩:=kR aT aU bK dH hb;replace HB:=zS HB hb
     (try clear hb)
     refine hK.out _ _ ⟨zc dH 0,zc dH 1,zc aT 0,zc aT 1,zc aT 2,zc aU 0,zc aU 1,zc aU 2⟩ (fun hHeld=>?_);clear hK K;refine zW (some 46) ?_;refine bM (i:=4) (N:=some 48) (zb 9 31) rfl rfl (bO av.out qk) qd (fun K hK=>?_);refine zJ Tryz.func108 qk (jL.calls aq ak au ag6 ag7 _ ZK.out) fun w55 hb=>?_;obtain⟨aT,aU,bK,dH⟩:=kR aT aU bK dH hb;replace HB:=zS HB hb
     (try clear hb)
     refine hK.out _ _ ⟨zc dH 0,zc dH 1,zc aT 0,zc aT 1,zc aT 2,zc aU 0,zc aU 1,zc aU 2⟩ (fun hHeld=>?_);clear hK K;refine zW (some 48) ?_;refine bM (i:=5) (N:=some 49) (zb 9 63) rfl rfl (bO av.out qk) qd (fun K hK=>?_);refine zJ Tryz.func122 qk (pO.calls ag4 ag5 ag6 ag7 ag8 ag9 _ A40.out) fun w56 hb=>?_;obtain⟨aT,aU,bK,dH⟩:=kR aT aU bK dH hb;replace HB:=zS HB hb
     (try clear hb)
     refine hK.out _ _ ⟨zc dH 0,zc dH 1,zc aT 0,zc aT 1,zc aT 2,zc aU 0,zc aU 1,zc aU 2⟩ (fun hHeld=>?_);clear hK K;refine zW (some 49) ?_;refine bM (i:=6) (N:=some 50) (zb 9 127) rfl rfl (bO av.out qk) qd (fun K hK=>?_);refine zJ Tryz.func121 qk (oU.calls Zx vA vB ag8 ag9 ag_ ag' aha _ A41.out) fun ZM hb=>?_;obtain⟨aT,aU,bK,dH⟩:=kR aT aU bK dH hb;replace HB:=zS HB hb
     (try clear hb)
     refine hK.out _ _ ⟨zc dH 0,zc dH 1,zc aT 0,zc aT 1,zc aT 2,zc aU 0,zc aU 1,zc aU 2⟩ (fun hHeld=>?_);clear hK K;refine zW (some 50) ?_;refine bM (i:=7) (N:=none) (zb 9 255) rfl rfl (bO av.out qk) qd (fun K hK=>?_);have aCd:ZM.cell? ⟨dS,0,none⟩=some (.bool false):=zc bK 0;have aAp:=b_ bK.out 0;have axi:=pR.out;have axj:=qw.out;have axk:=jq.out;have axl:=Ar.out;have axm:=Co.out;have axn:=kW.out;have aCe:ZM.cell? ⟨dS,1,none⟩=some (.string ⟨#[]⟩):=zc bK 1;have aAq:=b_ bK.out 1;have axo:=pR.out;have axp:=qw.out;have axq:=jq.out;have axr:=Ar.out;have axt:=Co.out;have axu:=kW.out;have aCf:ZM.cell? ⟨dS,2,none⟩=some (.string ⟨#[]⟩):=zc bK 2;have aAr:=b_ bK.out 2;have axv:=pR.out;have axw:=qw.out;have axx:=jq.out;have axy:=Ar.out;have axz:=Co.out;have axA:=kW.out;refine qA (w1:=?_) (by rfl) rfl ?_ ?_;rotate_left
     ·go_simp
      rfl
     refine hK.out _ _ ⟨((cell_far (p:=⟨dS,_,none⟩) jq.out _).trans (((cell_far (p:=⟨dS,_,none⟩) jq.out _).trans (((cell_far (p:=⟨dS,_,none⟩) jq.out _).trans (hHeld.1)))))),((cell_far (p:=⟨dS,_,none⟩) jq.out _).trans (((cell_far (p:=⟨dS,_,none⟩) jq.out _).trans (((cell_far (p:=⟨dS,_,none⟩) jq.out _).trans (hHeld.2.1)))))),((cell_far (p:=⟨dS,_,none⟩) pR.out _).trans (((cell_far (p:=⟨dS,_,none⟩) pR.out _).trans (((cell_far (p:=⟨dS,_,none⟩) pR.out _).trans (hHeld.2.2.1)))))),((cell_far (p:=⟨dS,_,none⟩) pR.out _).trans (((cell_far (p:=⟨dS,_,none⟩) pR.out _).trans (((cell_far (p:=⟨dS,_,none⟩) pR.out _).trans (hHeld.2.2.2.1)))))),((cell_far (p:=⟨dS,_,none⟩) pR.out _).trans (((cell_far (p:=⟨dS,_,none⟩) pR.out _).trans (((cell_far (p:=⟨dS,_,none⟩) pR.out _).trans (hHeld.2.2.2.2.1)))))),((cell_far (p:=⟨dS,_,none⟩) qw.out _).trans (((cell_far (p:=⟨dS,_,none⟩) qw.out _).trans (((cell_far (p:=⟨dS,_,none⟩) qw.out _).trans (hHeld.2.2.2.2.2.1)))))),((cell_far (p:=⟨dS,_,none⟩) qw.out _).trans (((cell_far (p:=⟨dS,_,none⟩) qw.out _).trans (((cell_far (p:=⟨dS,_,none⟩) qw.out _).trans (hHeld.2.2.2.2.2.2.1)))))),((cell_far (p:=⟨dS,_,none⟩) qw.out _).trans (((cell_far (p:=⟨dS,_,none⟩) qw.out _).trans (((cell_far (p:=⟨dS,_,none⟩) qw.out _).trans (hHeld.2.2.2.2.2.2.2))))))⟩ (fun hHeld=>?_);clear hK K;refine zU (i:=8) (N:=some 7) (zb 9 511) (bf av.out qk) ?_;refine mh (ng av.out qk) ?_;try go_wp2
     refine bodyPost_ret (pP rfl _ _ dS 40 #[.bool ag_,.string ag',.string aha] (0,0) _ rfl (Kx bK) Tryz.underlying40 rfl qk) rfl ?_;exact⟨zH,zT HB⟩
 ·rw[if_neg c4]at H
  have fW:=beq_eq_false_iff_ne.mpr c4;have oY:=bne_iff_ne.mpr c4;simp only[Option.some.injEq,Prod.mk.injEq]at H;obtain⟨rfl,rfl,rfl,rfl⟩:=H;go_enter Tryz.func112,Tryz.ntmps112;go_wp2_with (first|((with_reducible refine aR (N:=3) rfl ?_);refine zY 3 #[.bool af,.string aa,.string aj] 40 ?_;intro dc hg w61 ah hb;have aT:=qa (ah);have ars:=zG hg HB;have art:=zG hg HB;replace HB:=zS HB hb;clear hb ah hg)|((with_reducible refine aR (N:=4) rfl ?_);refine zY 4 #[.bool aq,.string ak,.string au] 40 ?_;intro dh hg w62 ah hb;have aU:=qa (ah);have aru:=zG hg HB;have arv:=zG hg HB;obtain⟨Ie,Ig⟩:=zQ hg aT;replace aT:=zB aT hb;replace HB:=zS HB hb;clear hb ah hg)|((with_reducible refine aR (N:=6) rfl ?_);refine zY 6 #[.bool false,.string ⟨#[]⟩,.string ⟨#[]⟩] 40 ?_;intro dS hg w63 ah hb;have bK:=qa (ah);have arw:=zG hg HB;have arx:=zG hg HB;obtain⟨pR,Ar⟩:=zQ hg aT;obtain⟨qw,Co⟩:=zQ hg aU;obtain⟨aT,aU⟩:=eo aT aU hb;replace HB:=zS HB hb;clear hb ah hg;have aAs:=Ie.out;have aAt:=Ig.out;have aAu:=pR.out;have aAv:=Ar.out;obtain⟨axB,axC,axD,axE,axF,axG⟩:=z3 aT;have aAw:=qw.out;have aAx:=Co.out;obtain⟨axH,axI,axJ,axK,axL,axM⟩:=z3 aU)|((with_reducible refine cU (f:=120) rfl ?_);refine zO Tryz.func120 qk (xg.calls k af aa aj aq ak au JV _ A3.out) fun w69 hb=>?_;obtain⟨aT,aU,bK⟩:=bB aT aU bK hb;replace HB:=zS HB hb;(try clear hb);obtain⟨axN,axO,axP,axQ,axR,axS⟩:=z3 bK))
  refine bodyPost_ret (pP rfl _ _ dS 40 #[.bool false,.string ⟨#[]⟩,.string ⟨#[]⟩] (0,0) _ rfl (Kx bK) Tryz.underlying40 rfl qk) rfl ?_;exact⟨zH,zT HB⟩
end Go.Proofs.aA.R
