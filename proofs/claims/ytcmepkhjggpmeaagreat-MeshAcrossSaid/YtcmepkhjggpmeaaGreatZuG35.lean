import Derived.Test.YtcmepkhjggpmeaaGreatZuG32
set_option linter.all false
set_option maxRecDepth 100000
set_option maxHeartbeats 8000000
namespace Go.Proofs.aF.R
open Go.RowKit Go.Proofs.aF.Z Go.Proofs.aD.aY Go.Proofs.aD.bO Go.Proofs.aD.bT
attribute [local go_sem] ct cu cA cC ck cm cw cz
def gW.j0 (F:Bool->ByteArray->Bool->ByteArray->Option (Bool × ByteArray)):Nat->Bool->Bool->ByteArray->ByteArray->Bool->ByteArray->ByteArray->Option (Bool × ByteArray × ByteArray × Int)
 | 0,_,_,_,_,_,_,_=>none
 | k+1,x24,MX,MY,ZG,MZ,M0,ZH=>if x24=true then ((F MX MY MZ M0).bind fun abJ=>(some (abJ.1,abJ.2,(⟨#[1]⟩:ByteArray),0))) else ((je.f MZ M0 ZH).bind fun abK=>((oP.f MX MY abK.1 abK.2).bind fun abL=>((je.f MX MY ZG).bind fun abM=>((oP.f MZ M0 abM.1 abM.2).bind fun abN=>((F abL.1 abL.2 abN.1 abN.2).bind fun abO=>((je.f MX MY ZG).bind fun abP=>((je.f MZ M0 ZH).bind fun abQ=>((oP.f abP.1 abP.2 abQ.1 abQ.2).bind fun abR=>((oc.f k abO.1 abO.2 abR.1 abR.2).bind fun Uj=>(some (Uj.1,Uj.2.1,Uj.2.2,0)))))))))))
def gW.f (F:Bool->ByteArray->Bool->ByteArray->Option (Bool × ByteArray)) (k:Nat) (af:Bool) (aa aj:ByteArray) (aq:Bool) (ak ay:ByteArray):Option (Bool × ByteArray × ByteArray × Int):=(vJ.f k af aa aj aq ak ay).bind fun Hs=>(if Hs=0 then (if aj.toList=([1]:List UInt8) then (gW.j0 F k (ay.toList==([1]:List UInt8)) af aa aj aq ak ay) else (gW.j0 F k false af aa aj aq ak ay)) else (some (false,⟨#[]⟩,⟨#[]⟩,Hs)))
def gW.T6:Bool × List (List Nat × List Nat):=(true,[([],[]),([],[]),([1],[1]),([],[]),([3],[3]),([2,4,4],[2,4]),([],[]),([6],[6]),([],[]),([8,5],[8]),([7,9,9],[7,9]),([0,5,10,10],[0,5,10]),([],[]),([12,11,11,0,1,2,3,4,5,6,7,8,9,10,11,12],[11,12])])
def gW.B6:List Nat:=[0,0,2,0,8,30,0,64,0,318,1022,2047,0,8191]
theorem gW.aq6:gR .any (opsOf Tryz.f66 6)=gW.T6:=by kernel_rfl
theorem gW.aoJ:nI gW.T6.2 gW.B6=true:=by kernel_rfl
def gW.T7:Bool × List (List Nat × List Nat):=(true,[([],[]),([],[]),([1],[1]),([],[]),([3,2],[3]),([2,4,4],[2,4]),([0,5,5],[0,5]),([6,6,0,1,2,3,4,5,6],[6]),([7,0,1,2,3,4,5,6,7],[])])
def gW.B7:List Nat:=[0,0,2,0,14,30,63,127,255]
theorem gW.OV:gR .any (opsOf Tryz.f66 7)=gW.T7:=by kernel_rfl
theorem gW.Of:nI gW.T7.2 gW.B7=true:=by kernel_rfl
theorem gW.calls (G:Nat) (F:Bool->ByteArray->Bool->ByteArray->Option (Bool × ByteArray)) (hF:aO (∀ (n:Bool) (s:ByteArray) (m:Bool) (t:ByteArray) (r1:Bool) (r2:ByteArray) (w:World),F n s m t=some (r1,r2)->Calls Tryz.prog 99 #[.func (.func G) #[] #[],.agg #[.bool n,.string s],.agg #[.bool m,.string t]] w fun e w'=>e = .returned (.agg #[.bool r1,.string r2])/\Below w.heap.size w w')) (k:Nat) (af:Bool) (aa aj:ByteArray) (aq:Bool) (ak ay:ByteArray) (r1:Bool) (r2 r3:ByteArray) (r4:Int) (w:World) (h:gW.f F k af aa aj aq ak ay=some (r1,r2,r3,r4)) :
  Calls Tryz.prog 66 #[.agg #[.bool af,.string aa,.string aj],.agg #[.bool aq,.string ak,.string ay],.func (.func G) #[] #[]] w fun e w'=>e = .returned (.tuple #[.agg #[.bool r1,.string r2,.string r3],.int .i64 r4])/\Below w.heap.size w w':=by
 have iL:=Tryz.underlying40;have zk:=Tryz.underlying38;have wK:=xA;have t_:=xB;have hf2:=xC;have hf3:=xD;have HB:=qa (Below.refl w.heap.size w);unfold gW.f at h;have H:=h;clear h;obtain⟨Hs,A3,H⟩:=zo H;by_cases c4:Hs=0
 ·rw[if_pos c4]at H
  have fV:=beq_iff_eq.mpr c4;have ou:=bne_eq_false_iff_eq.mpr c4;clear c4;have E8:=qa H;clear H;go_enter Tryz.func66,Tryz.ntmps66;go_upto_region 4 with (first|((with_reducible refine aV (N:=3) rfl ?_);refine zY 3 #[.bool af,.string aa,.string aj] 40 ?_;intro cU hg w6 ah hb;have aQ:=qa (ah);have aoK:=zG hg HB;have aoL:=zG hg HB;replace HB:=zS HB hb;clear hb ah hg)|((with_reducible refine aV (N:=4) rfl ?_);refine zY 4 #[.bool aq,.string ak,.string ay] 40 ?_;intro cV hg w7 ah hb;have aR:=qa (ah);have aoM:=zG hg HB;have aoN:=zG hg HB;obtain⟨FA,FB⟩:=zQ hg aQ;replace aQ:=zB aQ hb;replace HB:=zS HB hb;clear hb ah hg)|((with_reducible refine aV (N:=6) rfl ?_);refine zY 6 #[.bool false,.string ⟨#[]⟩,.string ⟨#[]⟩] 40 ?_;intro dL hg w8 ah hb;have bz:=qa (ah);have aoO:=zG hg HB;have aoP:=zG hg HB;obtain⟨oT,yw⟩:=zQ hg aQ;obtain⟨pK,AY⟩:=zQ hg aR;obtain⟨aQ,aR⟩:=eX aQ aR hb;replace HB:=zS HB hb;clear hb ah hg;have U4:=FA.out;have U5:=FB.out;have xF:=oT.out;have xG:=yw.out;obtain⟨qc,qg,qi,qj,qp,qu⟩:=z3 aQ;have abw:=pK.out;have abx:=AY.out;obtain⟨Gg,Gh,Gi,Gj,Gk,Gl⟩:=z3 aR)|((with_reducible refine cW (f:=98) rfl ?_);refine zO Tryz.func98 qk (vJ.calls k af aa aj aq ak ay Hs _ A3.out) fun ue hb=>?_;obtain⟨aQ,aR,bz⟩:=bC aQ aR bz hb;replace HB:=zS HB hb;(try clear hb)))
  (try simp only[Act.put,List.setIfInBounds_toArray,List.set_cons_zero,List.set_cons_succ])
  go_cut [24] (fun v24 wc=>∃ (kq:Nat) (Ol:Bool),v24 = .bool Ol/\aO (gW.j0 F kq Ol af aa aj aq ak ay=some (r1,r2,r3,r4))/\aO (kq<=k)/\aO (wc.heap[cU]?=some (.cells #[.bool af,.string aa,.string aj] 40 (0,0)))/\aO (wc.heap[cV]?=some (.cells #[.bool aq,.string ak,.string ay] 40 (0,0)))/\aO (wc.heap[dL]?=some (.cells #[.bool false,.string ⟨#[]⟩,.string ⟨#[]⟩] 40 (0,0)))/\aO (Below w.heap.size w wc))
  case first =>
   have H:=E8.out;clear E8;by_cases c15:aj.toList=([1]:List UInt8)
   ·rw[if_pos c15]at H
    have BR:=beq_iff_eq.mpr c15;have Od:=bne_eq_false_iff_eq.mpr c15;clear c15
    (first|rw[BR]|(simp only[dB,dD];rw[BR])|skip)
    have H':=qa H;clear H;have GJ:=FA.out;have GK:=FB.out;have Ue:=oT.out;have Uf:=yw.out;obtain⟨M1,M4,M6,M7,M8,M9⟩:=z3 aQ;have aa4:=pK.out;have aa5:=AY.out;obtain⟨F4,F5,F6,F7,F8,F9⟩:=z3 aR;go_wp2
    go_meet
    case rel=>exact⟨_,((ay.toList==([1]:List UInt8))),zR,H',zL,zK aQ,zK aR,zK bz,⟨zT HB⟩⟩
   ·rw[if_neg c15]at H
    have BR:=beq_eq_false_iff_ne.mpr c15;have Od:=bne_iff_ne.mpr c15
    (first|rw[BR]|(simp only[dB,dD];rw[BR])|skip)
    have H':=qa H;clear H;have TD:=FA.out;have TE:=FB.out;have aoQ:=oT.out;have aoR:=yw.out;obtain⟨ZI,ZJ,ZK,ZL,ZM,ZN⟩:=z3 aQ;go_wp2
    go_meet
    case rel=>exact⟨_,(false),zR,H',zL,zK aQ,zK aR,zK bz,⟨zT HB⟩⟩
  case rest =>
   clear E8;try clear c1;try clear c2;try clear p2;try clear c4;try clear fV;try clear ou;try clear c9;try clear c10;try clear c12;try clear c15;try clear BR;try clear Od;try clear c16;try clear c17;try clear c19;try clear c21;try clear LF;try clear qc;try clear qg;try clear qi;try clear Gg;try clear Gh;try clear Gi;try clear M1;try clear M4;try clear M6;try clear F4;try clear F5;try clear F6;try clear ZI;try clear ZJ;try clear ZK;try clear qj;try clear qp;try clear qu;try clear Gj;try clear Gk;try clear Gl;try clear M7;try clear M8;try clear M9;try clear F7;try clear F8;try clear F9;try clear ZL;try clear ZM;try clear ZN
   obtain⟨kq,Ol,rfl,HA,Wj,aQ,aR,bz,HB⟩:=hcut;cases kq with
   | zero=>exact absurd HA.out (by simp[gW.j0])
   | succ Wk =>
    have H:=HA.out;clear HA;simp only[gW.j0]at H;by_cases vw:Ol=true
    ·subst vw
     rw[if_pos rfl]at H
     obtain⟨⟨adk,adl⟩,Ij,H⟩:=zo H;try dsimp only at H
     simp only[Option.some.injEq,Prod.mk.injEq]at H;obtain⟨rfl,rfl,rfl,rfl⟩:=H;have aoS:=FA.out;have aoT:=FB.out;have Ug:=oT.out;have Uh:=yw.out;obtain⟨Zy,Zz,aki,ZA,ZB,akj⟩:=z3 aQ;have ayE:=pK.out;have ayF:=AY.out;obtain⟨atL,atM,atN,atO,atP,atQ⟩:=z3 aR;go_wp2_with (first|((with_reducible refine cW (f:=99) rfl ?_);refine zO Tryz.func99 qk (hF.out af aa aq ak adk adl _ Ij.out) fun w31 hb=>?_;obtain⟨aQ,aR,bz⟩:=bC aQ aR bz hb;replace HB:=zS HB hb;(try clear hb);obtain⟨akk,akl,akm,akn,ako,akp⟩:=z3 bz))
     refine bodyPost_ret (pI rfl _ _ dL 40 #[.bool adk,.string adl,.string (⟨#[1]⟩:ByteArray)] (0,0) _ rfl (Kx bz) Tryz.underlying40 rfl qk) rfl ?_;exact⟨zH,zT HB⟩
    ·replace vw:=Bool.eq_false_iff.mpr vw
     subst vw;rw[if_neg zn]at H
     obtain⟨⟨sX,sY⟩,PD,H⟩:=zo H;try dsimp only at H
     obtain⟨⟨uS,uT⟩,A34,H⟩:=zo H;try dsimp only at H
     obtain⟨⟨xN,xO⟩,A35,H⟩:=zo H;try dsimp only at H
     obtain⟨⟨Ch,Ci⟩,A36,H⟩:=zo H;try dsimp only at H
     obtain⟨⟨tR,tS⟩,A37,H⟩:=zo H;try dsimp only at H
     obtain⟨⟨adm,adn⟩,Wu,H⟩:=zo H;try dsimp only at H
     obtain⟨⟨ado,adq⟩,Wv,H⟩:=zo H;try dsimp only at H
     obtain⟨⟨adr,ads⟩,A40,H⟩:=zo H;try dsimp only at H
     obtain⟨⟨adt,adu,adv⟩,A41,H⟩:=zo H;try dsimp only at H
     simp only[Option.some.injEq,Prod.mk.injEq]at H;obtain⟨rfl,rfl,rfl,rfl⟩:=H;try go_wp2
     replace aQ:=zD aQ;replace aR:=zD aR;replace bz:=zD bz;replace HB:=zF HB;refine l9 (n:=14) (S:=fun w'=>w'.cell? ⟨cU,0,none⟩=some (.bool af)/\w'.cell? ⟨cU,1,none⟩=some (.string aa)/\w'.cell? ⟨cU,2,none⟩=some (.string aj)/\w'.cell? ⟨cV,0,none⟩=some (.bool aq)/\w'.cell? ⟨cV,1,none⟩=some (.string ak)/\w'.cell? ⟨cV,2,none⟩=some (.string ay)) (ds:=[]) (zb 14 0) qk rfl rfl ⟨zc aQ 0,zc aQ 1,zc aQ 2,zc aR 0,zc aR 1,zc aR 2⟩ (fun hHeld=>?_);refine nD gW.aq6 gW.aoJ (fun aA bJ=>?_);generalize wc.drew=w42 at aQ aR bz HB hHeld ⊢;refine zU (i:=0) (N:=some 32) (zb 14 1) (bf aA.out qk) ?_;refine zU (i:=1) (N:=some 33) (zb 14 3) (bf aA.out qk) ?_;refine zU (i:=6) (N:=some 38) (zb 14 67) (bf aA.out qk) ?_;refine zV (i:=2) (N:=some 34) (zb 14 71) (cH aA.out bJ.out qk) hHeld ?_;refine zV (i:=3) (N:=some 35) (zb 14 79) (cH aA.out bJ.out qk) hHeld ?_;refine zV (i:=7) (N:=some 39) (zb 14 207) (cH aA.out bJ.out qk) hHeld ?_;refine zV (i:=8) (N:=some 40) (zb 14 463) (cH aA.out bJ.out qk) hHeld ?_;refine k5 (σ:=Nat) 1 (zb 14 8191) (fun s_=>[(36,.agg #[.bool sX,.string sY]),(37,.agg #[.bool uS,.string uT]),(41,.agg #[.bool xN,.string xO]),(42,.agg #[.bool Ch,.string Ci]),(43,.agg #[.bool tR,.string tS]),(9,.pointer (some ⟨s_,0,none⟩))]) (fun s_ w'=>(w'.cell? ⟨cU,0,none⟩=some (.bool af)/\w'.cell? ⟨cU,1,none⟩=some (.string aa)/\w'.cell? ⟨cU,2,none⟩=some (.string aj)/\w'.cell? ⟨cV,0,none⟩=some (.bool aq)/\w'.cell? ⟨cV,1,none⟩=some (.string ak)/\w'.cell? ⟨cV,2,none⟩=some (.string ay))/\(w'.heap[cU]?=some (.cells #[.bool af,.string aa,.string aj] 40 (0,0)))/\(w'.heap[cV]?=some (.cells #[.bool aq,.string ak,.string ay] 40 (0,0)))/\(w'.heap[dL]?=some (.cells #[.bool false,.string ⟨#[]⟩,.string ⟨#[]⟩] 40 (0,0)))/\(w'.heap[s_]?=some (.cells #[.bool false,.string ⟨#[]⟩] 38 (0,0)))/\(w.heap.size<=s_)/\(w.heap.size<=s_)/\(cU≠s_)/\(s_≠cU)/\(cV≠s_)/\(s_≠cV)/\(dL≠s_)/\(s_≠dL)/\(Below w.heap.size w w')) ?_ ?_;rotate_left
     ·intro Xh
      refine k5 (σ:=Unit) 2 (zb 14 4095) (fun s_=>[(36,.agg #[.bool sX,.string sY]),(37,.agg #[.bool uS,.string uT]),(41,.agg #[.bool xN,.string xO]),(42,.agg #[.bool Ch,.string Ci]),(43,.agg #[.bool tR,.string tS])]) (fun s_ w'=>(w'.cell? ⟨cU,0,none⟩=some (.bool af)/\w'.cell? ⟨cU,1,none⟩=some (.string aa)/\w'.cell? ⟨cU,2,none⟩=some (.string aj)/\w'.cell? ⟨cV,0,none⟩=some (.bool aq)/\w'.cell? ⟨cV,1,none⟩=some (.string ak)/\w'.cell? ⟨cV,2,none⟩=some (.string ay))/\(w'.heap[cU]?=some (.cells #[.bool af,.string aa,.string aj] 40 (0,0)))/\(w'.heap[cV]?=some (.cells #[.bool aq,.string ak,.string ay] 40 (0,0)))/\(w'.heap[dL]?=some (.cells #[.bool false,.string ⟨#[]⟩,.string ⟨#[]⟩] 40 (0,0)))/\(Below w.heap.size w w')) ?_ ?_;rotate_left
      ·intro afn
       refine k5 (σ:=Nat) 2 (zb 14 6143) (fun s_=>[(36,.agg #[.bool sX,.string sY]),(37,.agg #[.bool uS,.string uT]),(41,.agg #[.bool xN,.string xO]),(42,.agg #[.bool Ch,.string Ci]),(9,.pointer (some ⟨s_,0,none⟩))]) (fun s_ w'=>(w'.cell? ⟨cU,0,none⟩=some (.bool af)/\w'.cell? ⟨cU,1,none⟩=some (.string aa)/\w'.cell? ⟨cU,2,none⟩=some (.string aj)/\w'.cell? ⟨cV,0,none⟩=some (.bool aq)/\w'.cell? ⟨cV,1,none⟩=some (.string ak)/\w'.cell? ⟨cV,2,none⟩=some (.string ay))/\(w'.heap[cU]?=some (.cells #[.bool af,.string aa,.string aj] 40 (0,0)))/\(w'.heap[cV]?=some (.cells #[.bool aq,.string ak,.string ay] 40 (0,0)))/\(w'.heap[dL]?=some (.cells #[.bool false,.string ⟨#[]⟩,.string ⟨#[]⟩] 40 (0,0)))/\(w'.heap[s_]?=some (.cells #[.bool false,.string ⟨#[]⟩] 38 (0,0)))/\(w.heap.size<=s_)/\(w.heap.size<=s_)/\(cU≠s_)/\(s_≠cU)/\(cV≠s_)/\(s_≠cV)/\(dL≠s_)/\(s_≠dL)/\(Below w.heap.size w w')) ?_ ?_;rotate_left
       ·intro Xm
        refine k5 (σ:=Unit) 3 (zb 14 2047) (fun s_=>[(36,.agg #[.bool sX,.string sY]),(37,.agg #[.bool uS,.string uT]),(41,.agg #[.bool xN,.string xO]),(42,.agg #[.bool Ch,.string Ci])]) (fun s_ w'=>(w'.cell? ⟨cU,0,none⟩=some (.bool af)/\w'.cell? ⟨cU,1,none⟩=some (.string aa)/\w'.cell? ⟨cU,2,none⟩=some (.string aj)/\w'.cell? ⟨cV,0,none⟩=some (.bool aq)/\w'.cell? ⟨cV,1,none⟩=some (.string ak)/\w'.cell? ⟨cV,2,none⟩=some (.string ay))/\(w'.heap[cU]?=some (.cells #[.bool af,.string aa,.string aj] 40 (0,0)))/\(w'.heap[cV]?=some (.cells #[.bool aq,.string ak,.string ay] 40 (0,0)))/\(w'.heap[dL]?=some (.cells #[.bool false,.string ⟨#[]⟩,.string ⟨#[]⟩] 40 (0,0)))/\(Below w.heap.size w w')) ?_ ?_;rotate_left
        ·intro afL
         refine k5 (σ:=Nat) 3 (zb 14 5119) (fun s_=>[(36,.agg #[.bool sX,.string sY]),(37,.agg #[.bool uS,.string uT]),(41,.agg #[.bool xN,.string xO]),(9,.pointer (some ⟨s_,0,none⟩))]) (fun s_ w'=>(w'.cell? ⟨cU,0,none⟩=some (.bool af)/\w'.cell? ⟨cU,1,none⟩=some (.string aa)/\w'.cell? ⟨cU,2,none⟩=some (.string aj)/\w'.cell? ⟨cV,0,none⟩=some (.bool aq)/\w'.cell? ⟨cV,1,none⟩=some (.string ak)/\w'.cell? ⟨cV,2,none⟩=some (.string ay))/\(w'.heap[cU]?=some (.cells #[.bool af,.string aa,.string aj] 40 (0,0)))/\(w'.heap[cV]?=some (.cells #[.bool aq,.string ak,.string ay] 40 (0,0)))/\(w'.heap[dL]?=some (.cells #[.bool false,.string ⟨#[]⟩,.string ⟨#[]⟩] 40 (0,0)))/\(w'.heap[s_]?=some (.cells #[.bool false,.string ⟨#[]⟩] 38 (0,0)))/\(w.heap.size<=s_)/\(w.heap.size<=s_)/\(cU≠s_)/\(s_≠cU)/\(cV≠s_)/\(s_≠cV)/\(dL≠s_)/\(s_≠dL)/\(Below w.heap.size w w')) ?_ ?_;rotate_left
         ·intro XD
          refine k5 (σ:=Unit) 4 (zb 14 1023) (fun s_=>[(36,.agg #[.bool sX,.string sY]),(37,.agg #[.bool uS,.string uT]),(41,.agg #[.bool xN,.string xO])]) (fun s_ w'=>(w'.cell? ⟨cU,0,none⟩=some (.bool af)/\w'.cell? ⟨cU,1,none⟩=some (.string aa)/\w'.cell? ⟨cU,2,none⟩=some (.string aj)/\w'.cell? ⟨cV,0,none⟩=some (.bool aq)/\w'.cell? ⟨cV,1,none⟩=some (.string ak)/\w'.cell? ⟨cV,2,none⟩=some (.string ay))/\(w'.heap[cU]?=some (.cells #[.bool af,.string aa,.string aj] 40 (0,0)))/\(w'.heap[cV]?=some (.cells #[.bool aq,.string ak,.string ay] 40 (0,0)))/\(w'.heap[dL]?=some (.cells #[.bool false,.string ⟨#[]⟩,.string ⟨#[]⟩] 40 (0,0)))/\(Below w.heap.size w w')) ?_ ?_;rotate_left
          ·intro akq
           refine k5 (σ:=Nat) 4 (zb 14 4607) (fun s_=>[(36,.agg #[.bool sX,.string sY]),(37,.agg #[.bool uS,.string uT]),(9,.pointer (some ⟨s_,0,none⟩))]) (fun s_ w'=>(w'.cell? ⟨cU,0,none⟩=some (.bool af)/\w'.cell? ⟨cU,1,none⟩=some (.string aa)/\w'.cell? ⟨cU,2,none⟩=some (.string aj)/\w'.cell? ⟨cV,0,none⟩=some (.bool aq)/\w'.cell? ⟨cV,1,none⟩=some (.string ak)/\w'.cell? ⟨cV,2,none⟩=some (.string ay))/\(w'.heap[cU]?=some (.cells #[.bool af,.string aa,.string aj] 40 (0,0)))/\(w'.heap[cV]?=some (.cells #[.bool aq,.string ak,.string ay] 40 (0,0)))/\(w'.heap[dL]?=some (.cells #[.bool false,.string ⟨#[]⟩,.string ⟨#[]⟩] 40 (0,0)))/\(w'.heap[s_]?=some (.cells #[.bool false,.string ⟨#[]⟩] 38 (0,0)))/\(w.heap.size<=s_)/\(w.heap.size<=s_)/\(cU≠s_)/\(s_≠cU)/\(cV≠s_)/\(s_≠cV)/\(dL≠s_)/\(s_≠dL)/\(Below w.heap.size w w')) ?_ ?_;rotate_left
           ·intro Ym
            refine k5 (σ:=Unit) 5 (zb 14 511) (fun s_=>[(36,.agg #[.bool sX,.string sY]),(37,.agg #[.bool uS,.string uT])]) (fun s_ w'=>(w'.cell? ⟨cU,0,none⟩=some (.bool af)/\w'.cell? ⟨cU,1,none⟩=some (.string aa)/\w'.cell? ⟨cU,2,none⟩=some (.string aj)/\w'.cell? ⟨cV,0,none⟩=some (.bool aq)/\w'.cell? ⟨cV,1,none⟩=some (.string ak)/\w'.cell? ⟨cV,2,none⟩=some (.string ay))/\(w'.heap[cU]?=some (.cells #[.bool af,.string aa,.string aj] 40 (0,0)))/\(w'.heap[cV]?=some (.cells #[.bool aq,.string ak,.string ay] 40 (0,0)))/\(w'.heap[dL]?=some (.cells #[.bool false,.string ⟨#[]⟩,.string ⟨#[]⟩] 40 (0,0)))/\(Below w.heap.size w w')) ?_ ?_;rotate_left
            ·intro aoU
             refine k5 (σ:=Nat) 5 (zb 14 4575) (fun s_=>[(36,.agg #[.bool sX,.string sY]),(9,.pointer (some ⟨s_,0,none⟩))]) (fun s_ w'=>(w'.cell? ⟨cU,0,none⟩=some (.bool af)/\w'.cell? ⟨cU,1,none⟩=some (.string aa)/\w'.cell? ⟨cU,2,none⟩=some (.string aj)/\w'.cell? ⟨cV,0,none⟩=some (.bool aq)/\w'.cell? ⟨cV,1,none⟩=some (.string ak)/\w'.cell? ⟨cV,2,none⟩=some (.string ay))/\(w'.heap[cU]?=some (.cells #[.bool af,.string aa,.string aj] 40 (0,0)))/\(w'.heap[cV]?=some (.cells #[.bool aq,.string ak,.string ay] 40 (0,0)))/\(w'.heap[dL]?=some (.cells #[.bool false,.string ⟨#[]⟩,.string ⟨#[]⟩] 40 (0,0)))/\(w'.heap[s_]?=some (.cells #[.bool false,.string ⟨#[]⟩] 38 (0,0)))/\(w.heap.size<=s_)/\(w.heap.size<=s_)/\(cU≠s_)/\(s_≠cU)/\(cV≠s_)/\(s_≠cV)/\(dL≠s_)/\(s_≠dL)/\(Below w.heap.size w w')) ?_ ?_;rotate_left
             ·intro aal
              refine k5 (σ:=Unit) 6 (zb 14 479) (fun s_=>[(36,.agg #[.bool sX,.string sY])]) (fun s_ w'=>(w'.cell? ⟨cU,0,none⟩=some (.bool af)/\w'.cell? ⟨cU,1,none⟩=some (.string aa)/\w'.cell? ⟨cU,2,none⟩=some (.string aj)/\w'.cell? ⟨cV,0,none⟩=some (.bool aq)/\w'.cell? ⟨cV,1,none⟩=some (.string ak)/\w'.cell? ⟨cV,2,none⟩=some (.string ay))/\(w'.heap[cU]?=some (.cells #[.bool af,.string aa,.string aj] 40 (0,0)))/\(w'.heap[cV]?=some (.cells #[.bool aq,.string ak,.string ay] 40 (0,0)))/\(w'.heap[dL]?=some (.cells #[.bool false,.string ⟨#[]⟩,.string ⟨#[]⟩] 40 (0,0)))/\(Below w.heap.size w w')) ?_ ?_;rotate_left
              ·intro hJ4
               refine k5 (σ:=Nat) 6 (zb 14 4559) (fun s_=>[(9,.pointer (some ⟨s_,0,none⟩))]) (fun s_ w'=>(w'.cell? ⟨cU,0,none⟩=some (.bool af)/\w'.cell? ⟨cU,1,none⟩=some (.string aa)/\w'.cell? ⟨cU,2,none⟩=some (.string aj)/\w'.cell? ⟨cV,0,none⟩=some (.bool aq)/\w'.cell? ⟨cV,1,none⟩=some (.string ak)/\w'.cell? ⟨cV,2,none⟩=some (.string ay))/\(w'.heap[cU]?=some (.cells #[.bool af,.string aa,.string aj] 40 (0,0)))/\(w'.heap[cV]?=some (.cells #[.bool aq,.string ak,.string ay] 40 (0,0)))/\(w'.heap[dL]?=some (.cells #[.bool false,.string ⟨#[]⟩,.string ⟨#[]⟩] 40 (0,0)))/\(w'.heap[s_]?=some (.cells #[.bool false,.string ⟨#[]⟩] 38 (0,0)))/\(w.heap.size<=s_)/\(w.heap.size<=s_)/\(cU≠s_)/\(s_≠cU)/\(cV≠s_)/\(s_≠cV)/\(dL≠s_)/\(s_≠dL)/\(Below w.heap.size w w')) ?_ ?_;rotate_left
               ·intro aq7
                refine sR (i:=4) (j:=12) (Ni:=some 36) (Nj:=some 9) (zb 14 479) (zb 14 4559) rfl rfl rfl rfl (qw aA.out qk) qd qd (fun K hK=>?_) (fun K hK=>?_)
                ·skip
                 refine zJ Tryz.func101 qk (je.calls aq ak ay sX sY _ PD.out) fun w43 hb=>?_;obtain⟨aQ,aR,bz⟩:=bC aQ aR bz hb;replace HB:=zS HB hb
                 (try clear hb)
                 refine hK.out _ _ ⟨zc aQ 0,zc aQ 1,zc aQ 2,zc aR 0,zc aR 1,zc aR 2⟩ (fun hHeld=>?_);clear hK K;refine zW (some 36) ?_;exact zA (hJ4 () _ ⟨hHeld,(zK aQ).out,(zK aR).out,(zK bz).out,(zT HB)⟩)
                ·skip
                 refine oU ?hg (N:=9) ?hd (cs:=#[.bool false,.string ⟨#[]⟩]) (t:=38) ?hr ?_;(case hd=>rfl);(case hg=>rfl);(case hr=>first|(go_simp;done)|(go_simp;rfl))
                 intro d_ hg w43 ah hb;have dy:=qa (ah);have mz:=zG hg HB;have mA:=zG hg HB;obtain⟨jo,kV⟩:=zQ hg aQ;obtain⟨jq,kW⟩:=zQ hg aR;obtain⟨jY,iP⟩:=zQ hg bz;obtain⟨aQ,aR,bz⟩:=bC aQ aR bz hb;replace HB:=zS HB hb;clear hb ah hg;refine hK.out _ _ ⟨zc aQ 0,zc aQ 1,zc aQ 2,zc aR 0,zc aR 1,zc aR 2⟩ (fun hHeld=>?_);clear hK K;refine zW (some 9) ?_;exact zA (aq7 (d_) _ ⟨hHeld,(zK aQ).out,(zK aR).out,(zK bz).out,(zK dy).out,mz.out,mA.out,jo.out,kV.out,jq.out,kW.out,jY.out,iP.out,(zT HB)⟩)
               ·skip
                rintro d_ Lo ⟨eF,bY,bZ,b_,cg,gf,gh,gm,iD,iE,iF,iu,iw,iy⟩;replace aQ:=qa bY;replace aR:=qa bZ;replace bz:=qa b_;have dy:=qa cg;have mz:=qa gf;have mA:=qa gh;have jo:=qa gm;have kV:=qa iD;have jq:=qa iE;have kW:=qa iF;have jY:=qa iu;have iP:=qa iw;replace HB:=qa iy;clear bY bZ b_ cg gf gh gm iD iE iF iu iw iy;have hHeld:=eF;refine iW (a':=?_) ?_ ?_;rotate_left
                ·simp only[ij,Act.put,List.setIfInBounds_toArray,List.set_cons_zero,List.set_cons_succ]
                 rfl
                refine bH (i:=4) (N:=some 36) (zb 14 4575) rfl rfl (bL aA.out qk) qd (fun K hK=>?_);refine zJ Tryz.func101 qk (je.calls aq ak ay sX sY _ PD.out) fun CG hb=>?_;obtain⟨aQ,aR,bz,dy⟩:=jx aQ aR bz dy hb;replace HB:=zS HB hb
                (try clear hb)
                refine hK.out _ _ ⟨zc aQ 0,zc aQ 1,zc aQ 2,zc aR 0,zc aR 1,zc aR 2⟩ (fun hHeld=>?_);clear hK K;refine zW (some 36) ?_;exact zA (aal (d_) _ ⟨hHeld,(zK aQ).out,(zK aR).out,(zK bz).out,(zK dy).out,mz.out,mA.out,jo.out,kV.out,jq.out,kW.out,jY.out,iP.out,(zT HB)⟩)
              ·skip
               rintro _ Lo ⟨eF,bY,bZ,b_,cg⟩;replace aQ:=qa bY;replace aR:=qa bZ;replace bz:=qa b_;replace HB:=qa cg;clear bY bZ b_ cg;have hHeld:=eF;refine iW (a':=?_) ?_ ?_;rotate_left
               ·simp only[ij,Act.put,List.setIfInBounds_toArray,List.set_cons_zero,List.set_cons_succ]
                rfl
               refine sR (i:=5) (j:=12) (Ni:=some 37) (Nj:=some 9) (zb 14 511) (zb 14 4575) rfl rfl rfl rfl (qw aA.out qk) qd qd (fun K hK=>?_) (fun K hK=>?_)
               ·skip
                refine zJ Tryz.func99 qk (oP.calls af aa sX sY uS uT _ A34.out) fun CG hb=>?_;obtain⟨aQ,aR,bz⟩:=bC aQ aR bz hb;replace HB:=zS HB hb
                (try clear hb)
                refine hK.out _ _ ⟨zc aQ 0,zc aQ 1,zc aQ 2,zc aR 0,zc aR 1,zc aR 2⟩ (fun hHeld=>?_);clear hK K;refine zW (some 37) ?_;exact zA (aoU () _ ⟨hHeld,(zK aQ).out,(zK aR).out,(zK bz).out,(zT HB)⟩)
               ·skip
                refine oU ?hg (N:=9) ?hd (cs:=#[.bool false,.string ⟨#[]⟩]) (t:=38) ?hr ?_;(case hd=>rfl);(case hg=>rfl);(case hr=>first|(go_simp;done)|(go_simp;rfl))
                intro d_ hg CG ah hb;have dy:=qa (ah);have mz:=zG hg HB;have mA:=zG hg HB;obtain⟨jo,kV⟩:=zQ hg aQ;obtain⟨jq,kW⟩:=zQ hg aR;obtain⟨jY,iP⟩:=zQ hg bz;obtain⟨aQ,aR,bz⟩:=bC aQ aR bz hb;replace HB:=zS HB hb;clear hb ah hg;refine hK.out _ _ ⟨zc aQ 0,zc aQ 1,zc aQ 2,zc aR 0,zc aR 1,zc aR 2⟩ (fun hHeld=>?_);clear hK K;refine zW (some 9) ?_;exact zA (aal (d_) _ ⟨hHeld,(zK aQ).out,(zK aR).out,(zK bz).out,(zK dy).out,mz.out,mA.out,jo.out,kV.out,jq.out,kW.out,jY.out,iP.out,(zT HB)⟩)
             ·skip
              rintro d_ CG ⟨eF,bY,bZ,b_,cg,gf,gh,gm,iD,iE,iF,iu,iw,iy⟩;replace aQ:=qa bY;replace aR:=qa bZ;replace bz:=qa b_;have dy:=qa cg;have mz:=qa gf;have mA:=qa gh;have jo:=qa gm;have kV:=qa iD;have jq:=qa iE;have kW:=qa iF;have jY:=qa iu;have iP:=qa iw;replace HB:=qa iy;clear bY bZ b_ cg gf gh gm iD iE iF iu iw iy;have hHeld:=eF;refine iW (a':=?_) ?_ ?_;rotate_left
              ·simp only[ij,Act.put,List.setIfInBounds_toArray,List.set_cons_zero,List.set_cons_succ]
               rfl
              refine bH (i:=5) (N:=some 37) (zb 14 4607) rfl rfl (bL aA.out qk) qd (fun K hK=>?_);refine zJ Tryz.func99 qk (oP.calls af aa sX sY uS uT _ A34.out) fun xY hb=>?_;obtain⟨aQ,aR,bz,dy⟩:=jx aQ aR bz dy hb;replace HB:=zS HB hb
              (try clear hb)
              refine hK.out _ _ ⟨zc aQ 0,zc aQ 1,zc aQ 2,zc aR 0,zc aR 1,zc aR 2⟩ (fun hHeld=>?_);clear hK K;refine zW (some 37) ?_;exact zA (Ym (d_) _ ⟨hHeld,(zK aQ).out,(zK aR).out,(zK bz).out,(zK dy).out,mz.out,mA.out,jo.out,kV.out,jq.out,kW.out,jY.out,iP.out,(zT HB)⟩)
            ·skip
             rintro _ CG ⟨eF,bY,bZ,b_,cg⟩;replace aQ:=qa bY;replace aR:=qa bZ;replace bz:=qa b_;replace HB:=qa cg;clear bY bZ b_ cg;have hHeld:=eF;refine iW (a':=?_) ?_ ?_;rotate_left
             ·simp only[ij,Act.put,List.setIfInBounds_toArray,List.set_cons_zero,List.set_cons_succ]
              rfl
             refine sR (i:=9) (j:=12) (Ni:=some 41) (Nj:=some 9) (zb 14 1023) (zb 14 4607) rfl rfl rfl rfl (qw aA.out qk) qd qd (fun K hK=>?_) (fun K hK=>?_)
             ·skip
              refine zJ Tryz.func101 qk (je.calls af aa aj xN xO _ A35.out) fun xY hb=>?_;obtain⟨aQ,aR,bz⟩:=bC aQ aR bz hb;replace HB:=zS HB hb
              (try clear hb)
              refine hK.out _ _ ⟨zc aQ 0,zc aQ 1,zc aQ 2,zc aR 0,zc aR 1,zc aR 2⟩ (fun hHeld=>?_);clear hK K;refine zW (some 41) ?_;exact zA (akq () _ ⟨hHeld,(zK aQ).out,(zK aR).out,(zK bz).out,(zT HB)⟩)
             ·skip
              refine oU ?hg (N:=9) ?hd (cs:=#[.bool false,.string ⟨#[]⟩]) (t:=38) ?hr ?_;(case hd=>rfl);(case hg=>rfl);(case hr=>first|(go_simp;done)|(go_simp;rfl))
              intro d_ hg xY ah hb;have dy:=qa (ah);have mz:=zG hg HB;have mA:=zG hg HB;obtain⟨jo,kV⟩:=zQ hg aQ;obtain⟨jq,kW⟩:=zQ hg aR;obtain⟨jY,iP⟩:=zQ hg bz;obtain⟨aQ,aR,bz⟩:=bC aQ aR bz hb;replace HB:=zS HB hb;clear hb ah hg;refine hK.out _ _ ⟨zc aQ 0,zc aQ 1,zc aQ 2,zc aR 0,zc aR 1,zc aR 2⟩ (fun hHeld=>?_);clear hK K;refine zW (some 9) ?_;exact zA (Ym (d_) _ ⟨hHeld,(zK aQ).out,(zK aR).out,(zK bz).out,(zK dy).out,mz.out,mA.out,jo.out,kV.out,jq.out,kW.out,jY.out,iP.out,(zT HB)⟩)
           ·skip
            rintro d_ xY ⟨eF,bY,bZ,b_,cg,gf,gh,gm,iD,iE,iF,iu,iw,iy⟩;replace aQ:=qa bY;replace aR:=qa bZ;replace bz:=qa b_;have dy:=qa cg;have mz:=qa gf;have mA:=qa gh;have jo:=qa gm;have kV:=qa iD;have jq:=qa iE;have kW:=qa iF;have jY:=qa iu;have iP:=qa iw;replace HB:=qa iy;clear bY bZ b_ cg gf gh gm iD iE iF iu iw iy;have hHeld:=eF;refine iW (a':=?_) ?_ ?_;rotate_left
            ·simp only[ij,Act.put,List.setIfInBounds_toArray,List.set_cons_zero,List.set_cons_succ]
             rfl
            refine bH (i:=9) (N:=some 41) (zb 14 5119) rfl rfl (bL aA.out qk) qd (fun K hK=>?_);refine zJ Tryz.func101 qk (je.calls af aa aj xN xO _ A35.out) fun CJ hb=>?_;obtain⟨aQ,aR,bz,dy⟩:=jx aQ aR bz dy hb;replace HB:=zS HB hb
            (try clear hb)
            refine hK.out _ _ ⟨zc aQ 0,zc aQ 1,zc aQ 2,zc aR 0,zc aR 1,zc aR 2⟩ (fun hHeld=>?_);clear hK K;refine zW (some 41) ?_;exact zA (XD (d_) _ ⟨hHeld,(zK aQ).out,(zK aR).out,(zK bz).out,(zK dy).out,mz.out,mA.out,jo.out,kV.out,jq.out,kW.out,jY.out,iP.out,(zT HB)⟩)
          ·skip
           rintro _ xY ⟨eF,bY,bZ,b_,cg⟩;replace aQ:=qa bY;replace aR:=qa bZ;replace bz:=qa b_;replace HB:=qa cg;clear bY bZ b_ cg;have hHeld:=eF;refine iW (a':=?_) ?_ ?_;rotate_left
           ·simp only[ij,Act.put,List.setIfInBounds_toArray,List.set_cons_zero,List.set_cons_succ]
            rfl
           refine sR (i:=10) (j:=12) (Ni:=some 42) (Nj:=some 9) (zb 14 2047) (zb 14 5119) rfl rfl rfl rfl (qw aA.out qk) qd qd (fun K hK=>?_) (fun K hK=>?_)
           ·skip
            refine zJ Tryz.func99 qk (oP.calls aq ak xN xO Ch Ci _ A36.out) fun CJ hb=>?_;obtain⟨aQ,aR,bz⟩:=bC aQ aR bz hb;replace HB:=zS HB hb
            (try clear hb)
            refine hK.out _ _ ⟨zc aQ 0,zc aQ 1,zc aQ 2,zc aR 0,zc aR 1,zc aR 2⟩ (fun hHeld=>?_);clear hK K;refine zW (some 42) ?_;exact zA (afL () _ ⟨hHeld,(zK aQ).out,(zK aR).out,(zK bz).out,(zT HB)⟩)
           ·skip
            refine oU ?hg (N:=9) ?hd (cs:=#[.bool false,.string ⟨#[]⟩]) (t:=38) ?hr ?_;(case hd=>rfl);(case hg=>rfl);(case hr=>first|(go_simp;done)|(go_simp;rfl))
            intro d_ hg CJ ah hb;have dy:=qa (ah);have mz:=zG hg HB;have mA:=zG hg HB;obtain⟨jo,kV⟩:=zQ hg aQ;obtain⟨jq,kW⟩:=zQ hg aR;obtain⟨jY,iP⟩:=zQ hg bz;obtain⟨aQ,aR,bz⟩:=bC aQ aR bz hb;replace HB:=zS HB hb;clear hb ah hg;refine hK.out _ _ ⟨zc aQ 0,zc aQ 1,zc aQ 2,zc aR 0,zc aR 1,zc aR 2⟩ (fun hHeld=>?_);clear hK K;refine zW (some 9) ?_;exact zA (XD (d_) _ ⟨hHeld,(zK aQ).out,(zK aR).out,(zK bz).out,(zK dy).out,mz.out,mA.out,jo.out,kV.out,jq.out,kW.out,jY.out,iP.out,(zT HB)⟩)
         ·skip
          rintro d_ CJ ⟨eF,bY,bZ,b_,cg,gf,gh,gm,iD,iE,iF,iu,iw,iy⟩;replace aQ:=qa bY;replace aR:=qa bZ;replace bz:=qa b_;have dy:=qa cg;have mz:=qa gf;have mA:=qa gh;have jo:=qa gm;have kV:=qa iD;have jq:=qa iE;have kW:=qa iF;have jY:=qa iu;have iP:=qa iw;replace HB:=qa iy;clear bY bZ b_ cg gf gh gm iD iE iF iu iw iy;have hHeld:=eF;refine iW (a':=?_) ?_ ?_;rotate_left
          ·simp only[ij,Act.put,List.setIfInBounds_toArray,List.set_cons_zero,List.set_cons_succ]
           rfl
          refine bH (i:=10) (N:=some 42) (zb 14 6143) rfl rfl (bL aA.out qk) qd (fun K hK=>?_);refine zJ Tryz.func99 qk (oP.calls aq ak xN xO Ch Ci _ A36.out) fun CK hb=>?_;obtain⟨aQ,aR,bz,dy⟩:=jx aQ aR bz dy hb;replace HB:=zS HB hb
          (try clear hb)
          refine hK.out _ _ ⟨zc aQ 0,zc aQ 1,zc aQ 2,zc aR 0,zc aR 1,zc aR 2⟩ (fun hHeld=>?_);clear hK K;refine zW (some 42) ?_;exact zA (Xm (d_) _ ⟨hHeld,(zK aQ).out,(zK aR).out,(zK bz).out,(zK dy).out,mz.out,mA.out,jo.out,kV.out,jq.out,kW.out,jY.out,iP.out,(zT HB)⟩)
        ·skip
         rintro _ CJ ⟨eF,bY,bZ,b_,cg⟩;replace aQ:=qa bY;replace aR:=qa bZ;replace bz:=qa b_;replace HB:=qa cg;clear bY bZ b_ cg;have hHeld:=eF;refine iW (a':=?_) ?_ ?_;rotate_left
         ·simp only[ij,Act.put,List.setIfInBounds_toArray,List.set_cons_zero,List.set_cons_succ]
          rfl
         refine sR (i:=11) (j:=12) (Ni:=some 43) (Nj:=some 9) (zb 14 4095) (zb 14 6143) rfl rfl rfl rfl (qw aA.out qk) qd qd (fun K hK=>?_) (fun K hK=>?_)
         ·skip
          refine zJ Tryz.func99 qk (hF.out uS uT Ch Ci tR tS _ A37.out) fun CK hb=>?_;obtain⟨aQ,aR,bz⟩:=bC aQ aR bz hb;replace HB:=zS HB hb
          (try clear hb)
          refine hK.out _ _ ⟨zc aQ 0,zc aQ 1,zc aQ 2,zc aR 0,zc aR 1,zc aR 2⟩ (fun hHeld=>?_);clear hK K;refine zW (some 43) ?_;exact zA (afn () _ ⟨hHeld,(zK aQ).out,(zK aR).out,(zK bz).out,(zT HB)⟩)
         ·skip
          refine oU ?hg (N:=9) ?hd (cs:=#[.bool false,.string ⟨#[]⟩]) (t:=38) ?hr ?_;(case hd=>rfl);(case hg=>rfl);(case hr=>first|(go_simp;done)|(go_simp;rfl))
          intro d_ hg CK ah hb;have dy:=qa (ah);have mz:=zG hg HB;have mA:=zG hg HB;obtain⟨jo,kV⟩:=zQ hg aQ;obtain⟨jq,kW⟩:=zQ hg aR;obtain⟨jY,iP⟩:=zQ hg bz;obtain⟨aQ,aR,bz⟩:=bC aQ aR bz hb;replace HB:=zS HB hb;clear hb ah hg;refine hK.out _ _ ⟨zc aQ 0,zc aQ 1,zc aQ 2,zc aR 0,zc aR 1,zc aR 2⟩ (fun hHeld=>?_);clear hK K;refine zW (some 9) ?_;exact zA (Xm (d_) _ ⟨hHeld,(zK aQ).out,(zK aR).out,(zK bz).out,(zK dy).out,mz.out,mA.out,jo.out,kV.out,jq.out,kW.out,jY.out,iP.out,(zT HB)⟩)
       ·skip
        rintro d_ CK ⟨eF,bY,bZ,b_,cg,gf,gh,gm,iD,iE,iF,iu,iw,iy⟩;replace aQ:=qa bY;replace aR:=qa bZ;replace bz:=qa b_;have dy:=qa cg;have mz:=qa gf;have mA:=qa gh;have jo:=qa gm;have kV:=qa iD;have jq:=qa iE;have kW:=qa iF;have jY:=qa iu;have iP:=qa iw;replace HB:=qa iy;clear bY bZ b_ cg gf gh gm iD iE iF iu iw iy;have hHeld:=eF;refine iW (a':=?_) ?_ ?_;rotate_left
        ·simp only[ij,Act.put,List.setIfInBounds_toArray,List.set_cons_zero,List.set_cons_succ]
         rfl
        refine bH (i:=11) (N:=some 43) (zb 14 8191) rfl rfl (bL aA.out qk) qd (fun K hK=>?_);refine zJ Tryz.func99 qk (hF.out uS uT Ch Ci tR tS _ A37.out) fun sk hb=>?_;obtain⟨aQ,aR,bz,dy⟩:=jx aQ aR bz dy hb;replace HB:=zS HB hb
        (try clear hb)
        refine hK.out _ _ ⟨zc aQ 0,zc aQ 1,zc aQ 2,zc aR 0,zc aR 1,zc aR 2⟩ (fun hHeld=>?_);clear hK K;refine zW (some 43) ?_;exact zA (Xh (d_) _ ⟨hHeld,(zK aQ).out,(zK aR).out,(zK bz).out,(zK dy).out,mz.out,mA.out,jo.out,kV.out,jq.out,kW.out,jY.out,iP.out,(zT HB)⟩)
      ·skip
       rintro _ CK ⟨eF,bY,bZ,b_,cg⟩;replace aQ:=qa bY;replace aR:=qa bZ;replace bz:=qa b_;replace HB:=qa cg;clear bY bZ b_ cg;have hHeld:=eF;refine iW (a':=?_) ?_ ?_;rotate_left
       ·simp only[ij,Act.put,List.setIfInBounds_toArray,List.set_cons_zero,List.set_cons_succ]
        rfl
       refine bH (i:=12) (N:=some 9) (zb 14 8191) rfl rfl (bL aA.out qk) qd (fun K hK=>?_);refine oU ?hg (N:=9) ?hd (cs:=#[.bool false,.string ⟨#[]⟩]) (t:=38) ?hr ?_;(case hd=>rfl);(case hg=>rfl);(case hr=>first|(go_simp;done)|(go_simp;rfl))
       intro d_ hg sk ah hb;have dy:=qa (ah);have mz:=zG hg HB;have mA:=zG hg HB;obtain⟨jo,kV⟩:=zQ hg aQ;obtain⟨jq,kW⟩:=zQ hg aR;obtain⟨jY,iP⟩:=zQ hg bz;obtain⟨aQ,aR,bz⟩:=bC aQ aR bz hb;replace HB:=zS HB hb;clear hb ah hg;refine hK.out _ _ ⟨zc aQ 0,zc aQ 1,zc aQ 2,zc aR 0,zc aR 1,zc aR 2⟩ (fun hHeld=>?_);clear hK K;refine zW (some 9) ?_;exact zA (Xh (d_) _ ⟨hHeld,(zK aQ).out,(zK aR).out,(zK bz).out,(zK dy).out,mz.out,mA.out,jo.out,kV.out,jq.out,kW.out,jY.out,iP.out,(zT HB)⟩)
     rintro d_ sk ⟨eF,bY,bZ,b_,cg,gf,gh,gm,iD,iE,iF,iu,iw,iy⟩;replace aQ:=qa bY;replace aR:=qa bZ;replace bz:=qa b_;have dy:=qa cg;have mz:=qa gf;have mA:=qa gh;have jo:=qa gm;have kV:=qa iD;have jq:=qa iE;have kW:=qa iF;have jY:=qa iu;have iP:=qa iw;replace HB:=qa iy;clear bY bZ b_ cg gf gh gm iD iE iF iu iw iy;have hHeld:=eF;refine iW (a':=?_) ?_ ?_;rotate_left
     ·simp only[ij,Act.put,List.setIfInBounds_toArray,List.set_cons_zero,List.set_cons_succ]
      rfl
     refine bH (i:=13) (N:=none) (zb 14 16383) rfl rfl (bL aA.out qk) qd (fun K hK=>?_);have ac0:sk.cell? ⟨d_,0,none⟩=some (.bool false):=zc dy 0;have aa6:=bU dy.out 0;have YT:=jo.out;have aiB:=jq.out;have atS:=jY.out;have YU:=kV.out;have aiC:=kW.out;have atT:=iP.out;have aqz:sk.cell? ⟨d_,1,none⟩=some (.string ⟨#[]⟩):=zc dy 1;have am_:=bU dy.out 1;have aiD:=jo.out;have aiE:=jq.out;have atU:=jY.out;have aiF:=kV.out;have aiG:=kW.out;have atV:=iP.out;refine qy (w1:=?_) (by rfl) rfl ?_ ?_;rotate_left
     ·go_simp
      rfl
     refine hK.out _ _ ⟨((cell_far (p:=⟨d_,_,none⟩) jo.out _).trans (((cell_far (p:=⟨d_,_,none⟩) jo.out _).trans (hHeld.1)))),((cell_far (p:=⟨d_,_,none⟩) jo.out _).trans (((cell_far (p:=⟨d_,_,none⟩) jo.out _).trans (hHeld.2.1)))),((cell_far (p:=⟨d_,_,none⟩) jo.out _).trans (((cell_far (p:=⟨d_,_,none⟩) jo.out _).trans (hHeld.2.2.1)))),((cell_far (p:=⟨d_,_,none⟩) jq.out _).trans (((cell_far (p:=⟨d_,_,none⟩) jq.out _).trans (hHeld.2.2.2.1)))),((cell_far (p:=⟨d_,_,none⟩) jq.out _).trans (((cell_far (p:=⟨d_,_,none⟩) jq.out _).trans (hHeld.2.2.2.2.1)))),((cell_far (p:=⟨d_,_,none⟩) jq.out _).trans (((cell_far (p:=⟨d_,_,none⟩) jq.out _).trans (hHeld.2.2.2.2.2))))⟩ (fun hHeld=>?_);clear hK K;refine mg (nH aA.out qk) ?_;try go_wp2
     have E7:aO (((sk.setCell ⟨d_,0,none⟩ (.bool tR)).setCell ⟨d_,1,none⟩ (.string tS)).heap[cU]?=some (.cells #[.bool af,.string aa,.string aj] 40 (0,0))):=zK aQ;have kN:aO (((sk.setCell ⟨d_,0,none⟩ (.bool tR)).setCell ⟨d_,1,none⟩ (.string tS)).heap[cV]?=some (.cells #[.bool aq,.string ak,.string ay] 40 (0,0))):=zK aR;have lB:aO (((sk.setCell ⟨d_,0,none⟩ (.bool tR)).setCell ⟨d_,1,none⟩ (.string tS)).heap[dL]?=some (.cells #[.bool false,.string ⟨#[]⟩,.string ⟨#[]⟩] 40 (0,0))):=zK bz;have xX:aO (((sk.setCell ⟨d_,0,none⟩ (.bool tR)).setCell ⟨d_,1,none⟩ (.string tS)).heap[d_]?=some (.cells #[.bool tR,.string tS] 38 (0,0))):=⟨Kx dy⟩;have Ax:aO (Below w.heap.size w ((sk.setCell ⟨d_,0,none⟩ (.bool tR)).setCell ⟨d_,1,none⟩ (.string tS))):=⟨zT HB⟩
     (try clear aQ)
     (try clear aR)
     (try clear bz)
     (try clear dy)
     (try clear HB)
     generalize ((sk.setCell ⟨d_,0,none⟩ (.bool tR)).setCell ⟨d_,1,none⟩ (.string tS))=w52 at E7 kN lB xX Ax ⊢;have aQ:=E7;have aR:=kN;have bz:=lB;have dy:=xX;have HB:=Ax;clear E7 kN lB xX Ax;replace aQ:=zD aQ;replace aR:=zD aR;replace bz:=zD bz;replace dy:=zD dy;replace HB:=zF HB;refine l9 (n:=9) (S:=fun w'=>w'.cell? ⟨d_,0,none⟩=some (.bool tR)/\w'.cell? ⟨d_,1,none⟩=some (.string tS)/\w'.cell? ⟨cU,0,none⟩=some (.bool af)/\w'.cell? ⟨cU,1,none⟩=some (.string aa)/\w'.cell? ⟨cU,2,none⟩=some (.string aj)/\w'.cell? ⟨cV,0,none⟩=some (.bool aq)/\w'.cell? ⟨cV,1,none⟩=some (.string ak)/\w'.cell? ⟨cV,2,none⟩=some (.string ay)) (ds:=[]) (zb 9 0) qk rfl rfl ⟨zc dy 0,zc dy 1,zc aQ 0,zc aQ 1,zc aQ 2,zc aR 0,zc aR 1,zc aR 2⟩ (fun hHeld=>?_);refine nD gW.OV gW.Of (fun aA bJ=>?_);generalize w52.drew=w53 at aQ aR bz dy HB hHeld ⊢;refine zV (i:=0) (N:=some 44) (zb 9 1) (cH aA.out bJ.out qk) hHeld ?_;refine zV (i:=1) (N:=some 45) (zb 9 3) (cH aA.out bJ.out qk) hHeld ?_;refine zV (i:=3) (N:=some 47) (zb 9 11) (cH aA.out bJ.out qk) hHeld ?_;refine bH (i:=2) (N:=some 46) (zb 9 15) rfl rfl (bL aA.out qk) qd (fun K hK=>?_);refine zJ Tryz.func101 qk (je.calls af aa aj adm adn _ Wu.out) fun w54 hb=>?_;obtain⟨aQ,aR,bz,dy⟩:=jx aQ aR bz dy hb;replace HB:=zS HB hb
     (try clear hb)
     refine hK.out _ _ ⟨zc dy 0,zc dy 1,zc aQ 0,zc aQ 1,zc aQ 2,zc aR 0,zc aR 1,zc aR 2⟩ (fun hHeld=>?_);clear hK K;refine zW (some 46) ?_;refine bH (i:=4) (N:=some 48) (zb 9 31) rfl rfl (bL aA.out qk) qd (fun K hK=>?_);refine zJ Tryz.func101 qk (je.calls aq ak ay ado adq _ Wv.out) fun w55 hb=>?_;obtain⟨aQ,aR,bz,dy⟩:=jx aQ aR bz dy hb;replace HB:=zS HB hb
     (try clear hb)
     refine hK.out _ _ ⟨zc dy 0,zc dy 1,zc aQ 0,zc aQ 1,zc aQ 2,zc aR 0,zc aR 1,zc aR 2⟩ (fun hHeld=>?_);clear hK K;refine zW (some 48) ?_;refine bH (i:=5) (N:=some 49) (zb 9 63) rfl rfl (bL aA.out qk) qd (fun K hK=>?_);refine zJ Tryz.func99 qk (oP.calls adm adn ado adq adr ads _ A40.out) fun w56 hb=>?_;obtain⟨aQ,aR,bz,dy⟩:=jx aQ aR bz dy hb;replace HB:=zS HB hb
     (try clear hb)
     refine hK.out _ _ ⟨zc dy 0,zc dy 1,zc aQ 0,zc aQ 1,zc aQ 2,zc aR 0,zc aR 1,zc aR 2⟩ (fun hHeld=>?_);clear hK K;refine zW (some 49) ?_;refine bH (i:=6) (N:=some 50) (zb 9 127) rfl rfl (bL aA.out qk) qd (fun K hK=>?_);refine zJ Tryz.func102 qk (oc.calls Wk tR tS adr ads adt adu adv _ A41.out) fun Ww hb=>?_;obtain⟨aQ,aR,bz,dy⟩:=jx aQ aR bz dy hb;replace HB:=zS HB hb
     (try clear hb)
     refine hK.out _ _ ⟨zc dy 0,zc dy 1,zc aQ 0,zc aQ 1,zc aQ 2,zc aR 0,zc aR 1,zc aR 2⟩ (fun hHeld=>?_);clear hK K;refine zW (some 50) ?_;refine bH (i:=7) (N:=none) (zb 9 255) rfl rfl (bL aA.out qk) qd (fun K hK=>?_);have aA1:Ww.cell? ⟨dL,0,none⟩=some (.bool false):=zc bz 0;have ayG:=bU bz.out 0;have atW:=oT.out;have atX:=pK.out;have atY:=iP.out;have atZ:=yw.out;have at0:=AY.out;have at1:=jY.out;have aA2:Ww.cell? ⟨dL,1,none⟩=some (.string ⟨#[]⟩):=zc bz 1;have ayH:=bU bz.out 1;have at2:=oT.out;have at3:=pK.out;have at4:=iP.out;have at5:=yw.out;have at6:=AY.out;have at7:=jY.out;have aA3:Ww.cell? ⟨dL,2,none⟩=some (.string ⟨#[]⟩):=zc bz 2;have ayI:=bU bz.out 2;have at8:=oT.out;have at9:=pK.out;have at':=iP.out;have aua:=yw.out;have aub:=AY.out;have auc:=jY.out;refine qy (w1:=?_) (by rfl) rfl ?_ ?_;rotate_left
     ·go_simp
      rfl
     refine hK.out _ _ ⟨((cell_far (p:=⟨dL,_,none⟩) iP.out _).trans (((cell_far (p:=⟨dL,_,none⟩) iP.out _).trans (((cell_far (p:=⟨dL,_,none⟩) iP.out _).trans (hHeld.1)))))),((cell_far (p:=⟨dL,_,none⟩) iP.out _).trans (((cell_far (p:=⟨dL,_,none⟩) iP.out _).trans (((cell_far (p:=⟨dL,_,none⟩) iP.out _).trans (hHeld.2.1)))))),((cell_far (p:=⟨dL,_,none⟩) oT.out _).trans (((cell_far (p:=⟨dL,_,none⟩) oT.out _).trans (((cell_far (p:=⟨dL,_,none⟩) oT.out _).trans (hHeld.2.2.1)))))),((cell_far (p:=⟨dL,_,none⟩) oT.out _).trans (((cell_far (p:=⟨dL,_,none⟩) oT.out _).trans (((cell_far (p:=⟨dL,_,none⟩) oT.out _).trans (hHeld.2.2.2.1)))))),((cell_far (p:=⟨dL,_,none⟩) oT.out _).trans (((cell_far (p:=⟨dL,_,none⟩) oT.out _).trans (((cell_far (p:=⟨dL,_,none⟩) oT.out _).trans (hHeld.2.2.2.2.1)))))),((cell_far (p:=⟨dL,_,none⟩) pK.out _).trans (((cell_far (p:=⟨dL,_,none⟩) pK.out _).trans (((cell_far (p:=⟨dL,_,none⟩) pK.out _).trans (hHeld.2.2.2.2.2.1)))))),((cell_far (p:=⟨dL,_,none⟩) pK.out _).trans (((cell_far (p:=⟨dL,_,none⟩) pK.out _).trans (((cell_far (p:=⟨dL,_,none⟩) pK.out _).trans (hHeld.2.2.2.2.2.2.1)))))),((cell_far (p:=⟨dL,_,none⟩) pK.out _).trans (((cell_far (p:=⟨dL,_,none⟩) pK.out _).trans (((cell_far (p:=⟨dL,_,none⟩) pK.out _).trans (hHeld.2.2.2.2.2.2.2))))))⟩ (fun hHeld=>?_);clear hK K;refine zU (i:=8) (N:=some 7) (zb 9 511) (bf aA.out qk) ?_;refine mg (nH aA.out qk) ?_;try go_wp2
     refine bodyPost_ret (pI rfl _ _ dL 40 #[.bool adt,.string adu,.string adv] (0,0) _ rfl (Kx bz) Tryz.underlying40 rfl qk) rfl ?_;exact⟨zH,zT HB⟩
 ·rw[if_neg c4]at H
  have fV:=beq_eq_false_iff_ne.mpr c4;have ou:=bne_iff_ne.mpr c4;simp only[Option.some.injEq,Prod.mk.injEq]at H;obtain⟨rfl,rfl,rfl,rfl⟩:=H;go_enter Tryz.func66,Tryz.ntmps66;go_wp2_with (first|((with_reducible refine aV (N:=3) rfl ?_);refine zY 3 #[.bool af,.string aa,.string aj] 40 ?_;intro cU hg w61 ah hb;have aQ:=qa (ah);have aoK:=zG hg HB;have aoL:=zG hg HB;replace HB:=zS HB hb;clear hb ah hg)|((with_reducible refine aV (N:=4) rfl ?_);refine zY 4 #[.bool aq,.string ak,.string ay] 40 ?_;intro cV hg w62 ah hb;have aR:=qa (ah);have aoM:=zG hg HB;have aoN:=zG hg HB;obtain⟨FA,FB⟩:=zQ hg aQ;replace aQ:=zB aQ hb;replace HB:=zS HB hb;clear hb ah hg)|((with_reducible refine aV (N:=6) rfl ?_);refine zY 6 #[.bool false,.string ⟨#[]⟩,.string ⟨#[]⟩] 40 ?_;intro dL hg w63 ah hb;have bz:=qa (ah);have aoO:=zG hg HB;have aoP:=zG hg HB;obtain⟨oT,yw⟩:=zQ hg aQ;obtain⟨pK,AY⟩:=zQ hg aR;obtain⟨aQ,aR⟩:=eX aQ aR hb;replace HB:=zS HB hb;clear hb ah hg;have ayJ:=FA.out;have ayK:=FB.out;have ayL:=oT.out;have ayM:=yw.out;obtain⟨aud,aue,auf,aug,auh,aui⟩:=z3 aQ;have ayN:=pK.out;have ayO:=AY.out;obtain⟨auj,auk,aul,aum,aun,auo⟩:=z3 aR)|((with_reducible refine cW (f:=98) rfl ?_);refine zO Tryz.func98 qk (vJ.calls k af aa aj aq ak ay Hs _ A3.out) fun w69 hb=>?_;obtain⟨aQ,aR,bz⟩:=bC aQ aR bz hb;replace HB:=zS HB hb;(try clear hb);obtain⟨aup,auq,aur,aus,aut,auu⟩:=z3 bz))
  refine bodyPost_ret (pI rfl _ _ dL 40 #[.bool false,.string ⟨#[]⟩,.string ⟨#[]⟩] (0,0) _ rfl (Kx bz) Tryz.underlying40 rfl qk) rfl ?_;exact⟨zH,zT HB⟩
end Go.Proofs.aF.R
