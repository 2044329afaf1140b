import Derived.Test.YtcmepkhjggpmeaaGreatZuG23
set_option linter.all false
set_option maxRecDepth 100000
set_option maxHeartbeats 8000000
namespace Go.Proofs.aF.R
open Go.RowKit Go.Proofs.aF.Z Go.Proofs.aD.aY Go.Proofs.aD.bO Go.Proofs.aD.bT
attribute [local go_sem] ct cu cA cC ck cm cw cz
mutual
def eN.j0:Nat->Bool->Bool->ByteArray->ByteArray->Option (Int)
 | 0,_,_,_,_=>none
 | k+1,x15,Bt,Bu,Bv=>if x15=true then (some 5) else ((vE.f Bt Bu).bind fun t228=>(if t228=0 then ((je.f Bt Bu Bv).bind fun abl=>((vE.f abl.1 abl.2).bind fun t231=>(if t231=0 then (eN.j1 k (Bv.toList==([]:List UInt8)) Bt Bu Bv) else (eN.j1 k true Bt Bu Bv)))) else (eN.j1 k true Bt Bu Bv)))
def eN.j1:Nat->Bool->Bool->ByteArray->ByteArray->Option (Int)
 | 0,_,_,_,_=>none
 | k+1,x30,Bt,Bu,Bv=>if x30=true then (some 1) else (if Bv.toList=([1]:List UInt8) then (some 0) else ((je.f Bt Bu Bv).bind fun abm=>((sH.f Bt Bu abm.1 abm.2).bind fun anB=>(if anB.2.1.toList=([1]:List UInt8) then (some 0) else (some 1)))))
end
def eN.f (k:Nat) (af:Bool) (aa aj:ByteArray):Option (Int):=if (aa.size:Int) > 8000 then (eN.j0 k true af aa aj) else (eN.j0 k (decide ((aj.size:Int) > 8000)) af aa aj)
def eN.T7:Bool × List (List Nat × List Nat):=(true,[([],[]),([0],[0]),([],[]),([2],[2]),([1,3,3],[1,3]),([4],[4]),([5],[5]),([5],[5]),([],[]),([8,6,4,0,1,2,3,4,5,6,8],[6,8]),([7,9,0,1,2,3,4,5,6,7,8,9],[7])])
def eN.B7:List Nat:=[0,1,0,4,15,31,63,63,0,383,1023]
theorem eN.OV:gR .any (opsOf Tryz.f135 7)=eN.T7:=by kernel_rfl
theorem eN.Of:nI eN.T7.2 eN.B7=true:=by kernel_rfl
theorem eN.calls (k:Nat) (af:Bool) (aa aj:ByteArray) (r:Int) (w:World) (h:eN.f k af aa aj=some r) :
  Calls Tryz.prog 135 #[.agg #[.bool af,.string aa,.string aj]] w fun e w'=>e = .returned (.int .i64 r)/\Below w.heap.size w w':=by
 have iL:=Tryz.underlying40;have zk:=Tryz.underlying38;have wK:=xA;have t_:=xB;have hf2:=xC;have hf3:=xD;have HB:=qa (Below.refl w.heap.size w);unfold eN.f at h;have H:=h;clear h;have pF:=qa H;clear H;go_enter Tryz.func135,Tryz.ntmps135;go_upto_region 1 with (first|((with_reducible refine aV (N:=1) rfl ?_);(try(refine C6 (by rfl) ?_;dsimp only));refine zY 1 #[.bool af,.string aa,.string aj] 40 ?_;intro nN hg w3 ah hb;have a_:=qa (ah);have ayb:=zG hg HB;have ayc:=zG hg HB;replace HB:=zS HB hb;clear hb ah hg))
 (try simp only[Act.put,List.setIfInBounds_toArray,List.set_cons_zero,List.set_cons_succ])
 go_cut [15] (fun v15 wc=>∃ (kq:Nat) (Og:Bool),v15 = .bool Og/\aO (eN.j0 kq Og af aa aj=some r)/\aO (kq<=k)/\aO (wc.heap[nN]?=some (.cells #[.bool af,.string aa,.string aj] 40 (0,0)))/\aO (Below w.heap.size w wc))
 case first =>
  have H:=pF.out;clear pF;by_cases c4:(aa.size:Int) > 8000
  ·rw[if_pos c4]at H
   have fV:=decide_eq_true c4;have ou:decide (8000<aa.size)=true:=decide_eq_true qo;clear c4
   (first|rw[fV]|(simp only[dB,dD];rw[fV])|skip)
   have H':=qa H;clear H;obtain⟨BG,BH,BI,BJ,BK,BL⟩:=z3 a_;go_wp2
   go_meet
   case rel=>exact⟨_,(true),zR,H',zL,zK a_,⟨zT HB⟩⟩
  ·rw[if_neg c4]at H
   have fV:=decide_eq_false c4;have ou:decide (8000<aa.size)=false:=decide_eq_false qo;clear c4
   (first|rw[fV]|(simp only[dB,dD];rw[fV])|skip)
   have H':=qa H;clear H;obtain⟨vR,vS,yI,vT,vU,yJ⟩:=z3 a_;go_wp2
   go_meet
   case rel=>exact⟨_,(decide ((aj.size:Int) > 8000)),zR,H',zL,zK a_,⟨zT HB⟩⟩
 case rest =>
  clear pF;try clear c1;try clear p2;try clear c4;try clear fV;try clear ou;try clear BG;try clear BH;try clear BI;try clear vR;try clear vS;try clear yI;try clear BJ;try clear BK;try clear BL;try clear vT;try clear vU;try clear yJ
  obtain⟨kq,Og,rfl,HA,CL,a_,HB⟩:=hcut;cases kq with
  | zero=>exact absurd HA.out (by simp[eN.j0])
  | succ Wl =>
   have H:=HA.out;clear HA;simp only[eN.j0]at H;by_cases c7:Og=true
   ·subst c7
    rw[if_pos rfl]at H
    obtain rfl:=Option.some.inj H;go_wp2
    go_ret
    exact⟨zH,zT HB⟩
   ·replace c7:=Bool.eq_false_iff.mpr c7
    subst c7;rw[if_neg zn]at H
    have bS:=qa H;clear H;go_upto_region 3 with (fail)
    go_cut [30] (fun v30 wc=>∃ (kq:Nat) (Oh:Bool),v30 = .bool Oh/\aO (eN.j1 kq Oh af aa aj=some r)/\aO (kq<=Wl)/\aO (wc.heap[nN]?=some (.cells #[.bool af,.string aa,.string aj] 40 (0,0)))/\aO (Below w.heap.size w wc))
    case first =>
     have H:=bS.out;clear bS;obtain⟨t228,A9,H⟩:=zo H;by_cases c10:t228=0
     ·rw[if_pos c10]at H
      have ot:=beq_iff_eq.mpr c10;have BP:=bne_eq_false_iff_eq.mpr c10;clear c10
      (first|rw[ot]|(simp only[dB,dD];rw[ot])|skip)
      obtain⟨⟨t229,t230⟩,Il,H⟩:=zo H;try dsimp only at H
      obtain⟨t231,A12,H⟩:=zo H;by_cases c13:t231=0
      ·rw[if_pos c13]at H
       have JX:=beq_iff_eq.mpr c13;have Ob:=bne_eq_false_iff_eq.mpr c13;clear c13;have H':=qa H;clear H;obtain⟨Jd,Je,Sv,Jf,Jg,Sw⟩:=z3 a_;go_wp2_with (first|((with_reducible refine cW (f:=139) rfl ?_);refine zO Tryz.func139 qk (vE.calls af aa t228 _ A9.out) fun PI hb=>?_;replace a_:=zB a_ hb;replace HB:=zS HB hb;(try clear hb);obtain⟨Bg,Bh,F_,Bi,Bj,Ga⟩:=z3 a_)|(go_at_call 101;(with_reducible refine(je.calls af aa aj t229 t230 _ Il.out).mono ?_);rintro e PN ⟨rfl,hb⟩;replace a_:=zB a_ hb;replace HB:=zS HB hb;(try clear hb))|(go_at_call 139;(with_reducible refine(vE.calls t229 t230 t231 _ A12.out).mono ?_);rintro e LA ⟨rfl,hb⟩;replace a_:=zB a_ hb;replace HB:=zS HB hb;(try clear hb);obtain⟨yB,yC,Dl,yD,yE,Dm⟩:=z3 a_))
       go_meet
       case rel=>exact⟨_,((aj.toList==([]:List UInt8))),zR,H',⟨by have:=CL.out;first|omega|exact Nat.le_refl _⟩,zK a_,⟨zT HB⟩⟩
      ·rw[if_neg c13]at H
       have JX:=beq_eq_false_iff_ne.mpr c13;have Ob:=bne_iff_ne.mpr c13;have H':=qa H;clear H;obtain⟨F4,F5,F6,F7,F8,F9⟩:=z3 a_;go_wp2_with (first|((with_reducible refine cW (f:=139) rfl ?_);refine zO Tryz.func139 qk (vE.calls af aa t228 _ A9.out) fun Az hb=>?_;replace a_:=zB a_ hb;replace HB:=zS HB hb;(try clear hb);obtain⟨MH,MI,MJ,MK,ML,MM⟩:=z3 a_)|(go_at_call 101;(with_reducible refine(je.calls af aa aj t229 t230 _ Il.out).mono ?_);rintro e Ii ⟨rfl,hb⟩;replace a_:=zB a_ hb;replace HB:=zS HB hb;(try clear hb))|(go_at_call 139;(with_reducible refine(vE.calls t229 t230 t231 _ A12.out).mono ?_);rintro e E9 ⟨rfl,hb⟩;replace a_:=zB a_ hb;replace HB:=zS HB hb;(try clear hb)))
       go_meet
       case rel=>exact⟨_,(true),zR,H',⟨by have:=CL.out;first|omega|exact Nat.le_refl _⟩,zK a_,⟨zT HB⟩⟩
     ·rw[if_neg c10]at H
      have ot:=beq_eq_false_iff_ne.mpr c10;have BP:=bne_iff_ne.mpr c10
      (first|rw[ot]|(simp only[dB,dD];rw[ot])|skip)
      have H':=qa H;clear H;obtain⟨Zf,Zg,Zh,Zi,Zj,Zk⟩:=z3 a_;go_wp2_with (first|((with_reducible refine cW (f:=139) rfl ?_);refine zO Tryz.func139 qk (vE.calls af aa t228 _ A9.out) fun PK hb=>?_;replace a_:=zB a_ hb;replace HB:=zS HB hb;(try clear hb)))
      go_meet
      case rel=>exact⟨_,(true),zR,H',⟨by have:=CL.out;first|omega|exact Nat.le_refl _⟩,zK a_,⟨zT HB⟩⟩
    case rest =>
     clear bS;try clear c1;try clear p2;try clear c4;try clear fV;try clear ou;try clear c7;try clear c10;try clear ot;try clear BP;try clear c13;try clear JX;try clear Ob;try clear Jd;try clear Je;try clear Sv;try clear Bg;try clear Bh;try clear F_;try clear yB;try clear yC;try clear Dl;try clear F4;try clear F5;try clear F6;try clear MH;try clear MI;try clear MJ;try clear Zf;try clear Zg;try clear Zh;try clear BG;try clear BH;try clear BI;try clear vR;try clear vS;try clear yI;try clear Jf;try clear Jg;try clear Sw;try clear Bi;try clear Bj;try clear Ga;try clear yD;try clear yE;try clear Dm;try clear F7;try clear F8;try clear F9;try clear MK;try clear ML;try clear MM;try clear Zi;try clear Zj;try clear Zk;try clear BJ;try clear BK;try clear BL;try clear vT;try clear vU;try clear yJ;try clear p2
     obtain⟨kq,Oh,rfl,HA,HJ7,a_,HB⟩:=hcut;cases kq with
     | zero=>exact absurd HA.out (by simp[eN.j1])
     | succ kj7 =>
      have H:=HA.out;clear HA;simp only[eN.j1]at H;by_cases PO:Oh=true
      ·subst PO
       rw[if_pos rfl]at H
       obtain rfl:=Option.some.inj H;go_wp2
       go_ret
       exact⟨zH,zT HB⟩
      ·replace PO:=Bool.eq_false_iff.mpr PO
       subst PO;rw[if_neg zn]at H
       by_cases Fb:aj.toList=([1]:List UInt8)
       ·rw[if_pos Fb]at H
        have anC:=beq_iff_eq.mpr Fb;have anD:=bne_eq_false_iff_eq.mpr Fb;clear Fb;obtain rfl:=Option.some.inj H;obtain⟨Zl,Zm,Zn,Zo,Zp,Zq⟩:=z3 a_;go_wp2
        go_ret
        exact⟨zH,zT HB⟩
       ·rw[if_neg Fb]at H
        have anC:=beq_eq_false_iff_ne.mpr Fb;have anD:=bne_iff_ne.mpr Fb;obtain⟨⟨t232,t233⟩,Ik,H⟩:=zo H;try dsimp only at H
        obtain⟨⟨t234,t235,t236⟩,CF,H⟩:=zo H;try dsimp only at H
        by_cases Fc:t235.toList=([1]:List UInt8)
        ·rw[if_pos Fc]at H
         have anE:=beq_iff_eq.mpr Fc;have anF:=bne_eq_false_iff_eq.mpr Fc;clear Fc;obtain rfl:=Option.some.inj H;obtain⟨Zr,Zs,Zt,Zu,Zv,Zw⟩:=z3 a_;try go_wp2
         replace a_:=zD a_;replace HB:=zF HB;refine l9 (n:=11) (S:=fun w'=>w'.cell? ⟨nN,0,none⟩=some (.bool af)/\w'.cell? ⟨nN,1,none⟩=some (.string aa)/\w'.cell? ⟨nN,2,none⟩=some (.string aj)) (ds:=[]) (zb 11 0) qk rfl rfl ⟨zc a_ 0,zc a_ 1,zc a_ 2⟩ (fun hHeld=>?_);refine nD eN.OV eN.Of (fun aA bJ=>?_);generalize wc.drew=PE at a_ HB hHeld ⊢;refine zU (i:=0) (N:=some 35) (zb 11 1) (bf aA.out qk) ?_;refine zV (i:=1) (N:=some 36) (zb 11 3) (cH aA.out bJ.out qk) hHeld ?_;refine zV (i:=2) (N:=some 37) (zb 11 7) (cH aA.out bJ.out qk) hHeld ?_;refine k5 (σ:=Nat) 2 (zb 11 511) (fun s_=>[(38,.agg #[.bool t232,.string t233]),(39,.tuple #[.agg #[.bool t234,.string t235],.int .i64 t236]),(3,.pointer (some ⟨s_,0,none⟩)),(34,.tuple #[.agg #[.bool t234,.string t235],.int .i64 t236]),(40,.agg #[.bool t234,.string t235]),(41,.int .i64 t236)]) (fun s_ w'=>(w'.cell? ⟨nN,0,none⟩=some (.bool af)/\w'.cell? ⟨nN,1,none⟩=some (.string aa)/\w'.cell? ⟨nN,2,none⟩=some (.string aj))/\(w'.heap[nN]?=some (.cells #[.bool af,.string aa,.string aj] 40 (0,0)))/\(w'.heap[s_]?=some (.cells #[.bool false,.string ⟨#[]⟩] 38 (0,0)))/\(w.heap.size<=s_)/\(w.heap.size<=s_)/\(nN≠s_)/\(s_≠nN)/\(Below w.heap.size w w')) ?_ ?_;rotate_left
         ·intro DX
          refine sR (i:=3) (j:=8) (Ni:=some 38) (Nj:=some 3) (zb 11 15) (zb 11 263) rfl rfl rfl rfl (qw aA.out qk) qd qd (fun K hK=>?_) (fun K hK=>?_)
          ·skip
           refine zJ Tryz.func101 qk (je.calls af aa aj t232 t233 _ Ik.out) fun Aw hb=>?_;replace a_:=zB a_ hb;replace HB:=zS HB hb
           (try clear hb)
           refine hK.out _ _ ⟨zc a_ 0,zc a_ 1,zc a_ 2⟩ (fun hHeld=>?_);clear hK K;refine zW (some 38) ?_;refine sR (i:=4) (j:=8) (Ni:=some 39) (Nj:=some 3) (zb 11 31) (zb 11 271) rfl rfl rfl rfl (qw aA.out qk) qd qd (fun K hK=>?_) (fun K hK=>?_)
           ·skip
            refine zJ Tryz.func137 qk (sH.calls af aa t232 t233 t234 t235 t236 _ CF.out) fun vp hb=>?_;replace a_:=zB a_ hb;replace HB:=zS HB hb
            (try clear hb)
            refine hK.out _ _ ⟨zc a_ 0,zc a_ 1,zc a_ 2⟩ (fun hHeld=>?_);clear hK K;refine zW (some 39) ?_;refine zU (i:=5) (N:=some 34) (zb 11 63) (bf aA.out qk) ?_;refine zU (i:=6) (N:=some 40) (zb 11 127) (bf aA.out qk) ?_;refine zU (i:=7) (N:=some 41) (zb 11 255) (bf aA.out qk) ?_;refine bH (i:=8) (N:=some 3) (zb 11 511) rfl rfl (bL aA.out qk) qd (fun K hK=>?_);refine oU ?hg (N:=3) ?hd (cs:=#[.bool false,.string ⟨#[]⟩]) (t:=38) ?hr ?_;(case hd=>rfl);(case hg=>rfl);(case hr=>first|(go_simp;done)|(go_simp;rfl))
            intro jG hg E5 ah hb;have ir:=qa (ah);have tF:=zG hg HB;have tG:=zG hg HB;obtain⟨jd,og⟩:=zQ hg a_;replace a_:=zB a_ hb;replace HB:=zS HB hb;clear hb ah hg;refine hK.out _ _ ⟨zc a_ 0,zc a_ 1,zc a_ 2⟩ (fun hHeld=>?_);clear hK K;refine zW (some 3) ?_;exact iW (by simp only[ij,Act.put,List.setIfInBounds_toArray,List.set_cons_zero,List.set_cons_succ]) (DX (jG) _ ⟨hHeld,(zK a_).out,(zK ir).out,tF.out,tG.out,jd.out,og.out,(zT HB)⟩)
           ·skip
            refine oU ?hg (N:=3) ?hd (cs:=#[.bool false,.string ⟨#[]⟩]) (t:=38) ?hr ?_;(case hd=>rfl);(case hg=>rfl);(case hr=>first|(go_simp;done)|(go_simp;rfl))
            intro jG hg vp ah hb;have ir:=qa (ah);have tF:=zG hg HB;have tG:=zG hg HB;obtain⟨jd,og⟩:=zQ hg a_;replace a_:=zB a_ hb;replace HB:=zS HB hb;clear hb ah hg;refine hK.out _ _ ⟨zc a_ 0,zc a_ 1,zc a_ 2⟩ (fun hHeld=>?_);clear hK K;refine zW (some 3) ?_;refine bH (i:=4) (N:=some 39) (zb 11 287) rfl rfl (bL aA.out qk) qd (fun K hK=>?_);refine zJ Tryz.func137 qk (sH.calls af aa t232 t233 t234 t235 t236 _ CF.out) fun E5 hb=>?_;obtain⟨a_,ir⟩:=eX a_ ir hb;replace HB:=zS HB hb
            (try clear hb)
            refine hK.out _ _ ⟨zc a_ 0,zc a_ 1,zc a_ 2⟩ (fun hHeld=>?_);clear hK K;refine zW (some 39) ?_;refine zU (i:=5) (N:=some 34) (zb 11 319) (bf aA.out qk) ?_;refine zU (i:=6) (N:=some 40) (zb 11 383) (bf aA.out qk) ?_;refine zU (i:=7) (N:=some 41) (zb 11 511) (bf aA.out qk) ?_;exact iW (by simp only[ij,Act.put,List.setIfInBounds_toArray,List.set_cons_zero,List.set_cons_succ]) (DX (jG) _ ⟨hHeld,(zK a_).out,(zK ir).out,tF.out,tG.out,jd.out,og.out,(zT HB)⟩)
          ·skip
           refine oU ?hg (N:=3) ?hd (cs:=#[.bool false,.string ⟨#[]⟩]) (t:=38) ?hr ?_;(case hd=>rfl);(case hg=>rfl);(case hr=>first|(go_simp;done)|(go_simp;rfl))
           intro jG hg Aw ah hb;have ir:=qa (ah);have tF:=zG hg HB;have tG:=zG hg HB;obtain⟨jd,og⟩:=zQ hg a_;replace a_:=zB a_ hb;replace HB:=zS HB hb;clear hb ah hg;refine hK.out _ _ ⟨zc a_ 0,zc a_ 1,zc a_ 2⟩ (fun hHeld=>?_);clear hK K;refine zW (some 3) ?_;refine bH (i:=3) (N:=some 38) (zb 11 271) rfl rfl (bL aA.out qk) qd (fun K hK=>?_);refine zJ Tryz.func101 qk (je.calls af aa aj t232 t233 _ Ik.out) fun vp hb=>?_;obtain⟨a_,ir⟩:=eX a_ ir hb;replace HB:=zS HB hb
           (try clear hb)
           refine hK.out _ _ ⟨zc a_ 0,zc a_ 1,zc a_ 2⟩ (fun hHeld=>?_);clear hK K;refine zW (some 38) ?_;refine bH (i:=4) (N:=some 39) (zb 11 287) rfl rfl (bL aA.out qk) qd (fun K hK=>?_);refine zJ Tryz.func137 qk (sH.calls af aa t232 t233 t234 t235 t236 _ CF.out) fun E5 hb=>?_;obtain⟨a_,ir⟩:=eX a_ ir hb;replace HB:=zS HB hb
           (try clear hb)
           refine hK.out _ _ ⟨zc a_ 0,zc a_ 1,zc a_ 2⟩ (fun hHeld=>?_);clear hK K;refine zW (some 39) ?_;refine zU (i:=5) (N:=some 34) (zb 11 319) (bf aA.out qk) ?_;refine zU (i:=6) (N:=some 40) (zb 11 383) (bf aA.out qk) ?_;refine zU (i:=7) (N:=some 41) (zb 11 511) (bf aA.out qk) ?_;exact iW (by simp only[ij,Act.put,List.setIfInBounds_toArray,List.set_cons_zero,List.set_cons_succ]) (DX (jG) _ ⟨hHeld,(zK a_).out,(zK ir).out,tF.out,tG.out,jd.out,og.out,(zT HB)⟩)
         rintro jG E6 ⟨eF,bY,bZ,b_,cg,gf,gh,gm⟩;replace a_:=qa bY;have ir:=qa bZ;have tF:=qa b_;have tG:=qa cg;have jd:=qa gf;have og:=qa gh;replace HB:=qa gm;clear bY bZ b_ cg gf gh gm;have hHeld:=eF;refine iW (a':=?_) ?_ ?_;rotate_left
         ·simp only[ij,Act.put,List.setIfInBounds_toArray,List.set_cons_zero,List.set_cons_succ]
          rfl
         refine bH (i:=9) (N:=none) (zb 11 1023) rfl rfl (bL aA.out qk) qd (fun K hK=>?_);have aqP:E6.cell? ⟨jG,0,none⟩=some (.bool false):=zc ir 0;have anG:=bU ir.out 0;have ajf:=jd.out;have ajg:=og.out;have aAX:E6.cell? ⟨jG,1,none⟩=some (.string ⟨#[]⟩):=zc ir 1;have ayd:=bU ir.out 1;have as3:=jd.out;have as4:=og.out;refine qy (w1:=?_) (by rfl) rfl ?_ ?_;rotate_left
         ·go_simp
          rfl
         refine hK.out _ _ ⟨((cell_far (p:=⟨jG,_,none⟩) jd.out _).trans (((cell_far (p:=⟨jG,_,none⟩) jd.out _).trans (hHeld.1)))),((cell_far (p:=⟨jG,_,none⟩) jd.out _).trans (((cell_far (p:=⟨jG,_,none⟩) jd.out _).trans (hHeld.2.1)))),((cell_far (p:=⟨jG,_,none⟩) jd.out _).trans (((cell_far (p:=⟨jG,_,none⟩) jd.out _).trans (hHeld.2.2))))⟩ (fun hHeld=>?_);clear hK K;refine zU (i:=10) (N:=some 4) (zb 11 2047) (bf aA.out qk) ?_;refine mg (nH aA.out qk) ?_;have abn:=og.out;have abo:=jd.out;obtain⟨ajh,aji,ajj,ajk⟩:=z2 ir;try go_wp2
         go_ret
         exact⟨zH,zT HB⟩
        ·rw[if_neg Fc]at H
         have anE:=beq_eq_false_iff_ne.mpr Fc;have anF:=bne_iff_ne.mpr Fc;obtain rfl:=Option.some.inj H;obtain⟨ajl,ajm,ajn,ajo,ajp,ajq⟩:=z3 a_;try go_wp2
         replace a_:=zD a_;replace HB:=zF HB;refine l9 (n:=11) (S:=fun w'=>w'.cell? ⟨nN,0,none⟩=some (.bool af)/\w'.cell? ⟨nN,1,none⟩=some (.string aa)/\w'.cell? ⟨nN,2,none⟩=some (.string aj)) (ds:=[]) (zb 11 0) qk rfl rfl ⟨zc a_ 0,zc a_ 1,zc a_ 2⟩ (fun hHeld=>?_);refine nD eN.OV eN.Of (fun aA bJ=>?_);generalize wc.drew=Lo at a_ HB hHeld ⊢;refine zU (i:=0) (N:=some 35) (zb 11 1) (bf aA.out qk) ?_;refine zV (i:=1) (N:=some 36) (zb 11 3) (cH aA.out bJ.out qk) hHeld ?_;refine zV (i:=2) (N:=some 37) (zb 11 7) (cH aA.out bJ.out qk) hHeld ?_;refine k5 (σ:=Nat) 2 (zb 11 511) (fun s_=>[(38,.agg #[.bool t232,.string t233]),(39,.tuple #[.agg #[.bool t234,.string t235],.int .i64 t236]),(3,.pointer (some ⟨s_,0,none⟩)),(34,.tuple #[.agg #[.bool t234,.string t235],.int .i64 t236]),(40,.agg #[.bool t234,.string t235]),(41,.int .i64 t236)]) (fun s_ w'=>(w'.cell? ⟨nN,0,none⟩=some (.bool af)/\w'.cell? ⟨nN,1,none⟩=some (.string aa)/\w'.cell? ⟨nN,2,none⟩=some (.string aj))/\(w'.heap[nN]?=some (.cells #[.bool af,.string aa,.string aj] 40 (0,0)))/\(w'.heap[s_]?=some (.cells #[.bool false,.string ⟨#[]⟩] 38 (0,0)))/\(w.heap.size<=s_)/\(w.heap.size<=s_)/\(nN≠s_)/\(s_≠nN)/\(Below w.heap.size w w')) ?_ ?_;rotate_left
         ·intro DX
          refine sR (i:=3) (j:=8) (Ni:=some 38) (Nj:=some 3) (zb 11 15) (zb 11 263) rfl rfl rfl rfl (qw aA.out qk) qd qd (fun K hK=>?_) (fun K hK=>?_)
          ·skip
           refine zJ Tryz.func101 qk (je.calls af aa aj t232 t233 _ Ik.out) fun CG hb=>?_;replace a_:=zB a_ hb;replace HB:=zS HB hb
           (try clear hb)
           refine hK.out _ _ ⟨zc a_ 0,zc a_ 1,zc a_ 2⟩ (fun hHeld=>?_);clear hK K;refine zW (some 38) ?_;refine sR (i:=4) (j:=8) (Ni:=some 39) (Nj:=some 3) (zb 11 31) (zb 11 271) rfl rfl rfl rfl (qw aA.out qk) qd qd (fun K hK=>?_) (fun K hK=>?_)
           ·skip
            refine zJ Tryz.func137 qk (sH.calls af aa t232 t233 t234 t235 t236 _ CF.out) fun xY hb=>?_;replace a_:=zB a_ hb;replace HB:=zS HB hb
            (try clear hb)
            refine hK.out _ _ ⟨zc a_ 0,zc a_ 1,zc a_ 2⟩ (fun hHeld=>?_);clear hK K;refine zW (some 39) ?_;refine zU (i:=5) (N:=some 34) (zb 11 63) (bf aA.out qk) ?_;refine zU (i:=6) (N:=some 40) (zb 11 127) (bf aA.out qk) ?_;refine zU (i:=7) (N:=some 41) (zb 11 255) (bf aA.out qk) ?_;refine bH (i:=8) (N:=some 3) (zb 11 511) rfl rfl (bL aA.out qk) qd (fun K hK=>?_);refine oU ?hg (N:=3) ?hd (cs:=#[.bool false,.string ⟨#[]⟩]) (t:=38) ?hr ?_;(case hd=>rfl);(case hg=>rfl);(case hr=>first|(go_simp;done)|(go_simp;rfl))
            intro jG hg CJ ah hb;have ir:=qa (ah);have tF:=zG hg HB;have tG:=zG hg HB;obtain⟨jd,og⟩:=zQ hg a_;replace a_:=zB a_ hb;replace HB:=zS HB hb;clear hb ah hg;refine hK.out _ _ ⟨zc a_ 0,zc a_ 1,zc a_ 2⟩ (fun hHeld=>?_);clear hK K;refine zW (some 3) ?_;exact iW (by simp only[ij,Act.put,List.setIfInBounds_toArray,List.set_cons_zero,List.set_cons_succ]) (DX (jG) _ ⟨hHeld,(zK a_).out,(zK ir).out,tF.out,tG.out,jd.out,og.out,(zT HB)⟩)
           ·skip
            refine oU ?hg (N:=3) ?hd (cs:=#[.bool false,.string ⟨#[]⟩]) (t:=38) ?hr ?_;(case hd=>rfl);(case hg=>rfl);(case hr=>first|(go_simp;done)|(go_simp;rfl))
            intro jG hg xY ah hb;have ir:=qa (ah);have tF:=zG hg HB;have tG:=zG hg HB;obtain⟨jd,og⟩:=zQ hg a_;replace a_:=zB a_ hb;replace HB:=zS HB hb;clear hb ah hg;refine hK.out _ _ ⟨zc a_ 0,zc a_ 1,zc a_ 2⟩ (fun hHeld=>?_);clear hK K;refine zW (some 3) ?_;refine bH (i:=4) (N:=some 39) (zb 11 287) rfl rfl (bL aA.out qk) qd (fun K hK=>?_);refine zJ Tryz.func137 qk (sH.calls af aa t232 t233 t234 t235 t236 _ CF.out) fun CJ hb=>?_;obtain⟨a_,ir⟩:=eX a_ ir hb;replace HB:=zS HB hb
            (try clear hb)
            refine hK.out _ _ ⟨zc a_ 0,zc a_ 1,zc a_ 2⟩ (fun hHeld=>?_);clear hK K;refine zW (some 39) ?_;refine zU (i:=5) (N:=some 34) (zb 11 319) (bf aA.out qk) ?_;refine zU (i:=6) (N:=some 40) (zb 11 383) (bf aA.out qk) ?_;refine zU (i:=7) (N:=some 41) (zb 11 511) (bf aA.out qk) ?_;exact iW (by simp only[ij,Act.put,List.setIfInBounds_toArray,List.set_cons_zero,List.set_cons_succ]) (DX (jG) _ ⟨hHeld,(zK a_).out,(zK ir).out,tF.out,tG.out,jd.out,og.out,(zT HB)⟩)
          ·skip
           refine oU ?hg (N:=3) ?hd (cs:=#[.bool false,.string ⟨#[]⟩]) (t:=38) ?hr ?_;(case hd=>rfl);(case hg=>rfl);(case hr=>first|(go_simp;done)|(go_simp;rfl))
           intro jG hg CG ah hb;have ir:=qa (ah);have tF:=zG hg HB;have tG:=zG hg HB;obtain⟨jd,og⟩:=zQ hg a_;replace a_:=zB a_ hb;replace HB:=zS HB hb;clear hb ah hg;refine hK.out _ _ ⟨zc a_ 0,zc a_ 1,zc a_ 2⟩ (fun hHeld=>?_);clear hK K;refine zW (some 3) ?_;refine bH (i:=3) (N:=some 38) (zb 11 271) rfl rfl (bL aA.out qk) qd (fun K hK=>?_);refine zJ Tryz.func101 qk (je.calls af aa aj t232 t233 _ Ik.out) fun xY hb=>?_;obtain⟨a_,ir⟩:=eX a_ ir hb;replace HB:=zS HB hb
           (try clear hb)
           refine hK.out _ _ ⟨zc a_ 0,zc a_ 1,zc a_ 2⟩ (fun hHeld=>?_);clear hK K;refine zW (some 38) ?_;refine bH (i:=4) (N:=some 39) (zb 11 287) rfl rfl (bL aA.out qk) qd (fun K hK=>?_);refine zJ Tryz.func137 qk (sH.calls af aa t232 t233 t234 t235 t236 _ CF.out) fun CJ hb=>?_;obtain⟨a_,ir⟩:=eX a_ ir hb;replace HB:=zS HB hb
           (try clear hb)
           refine hK.out _ _ ⟨zc a_ 0,zc a_ 1,zc a_ 2⟩ (fun hHeld=>?_);clear hK K;refine zW (some 39) ?_;refine zU (i:=5) (N:=some 34) (zb 11 319) (bf aA.out qk) ?_;refine zU (i:=6) (N:=some 40) (zb 11 383) (bf aA.out qk) ?_;refine zU (i:=7) (N:=some 41) (zb 11 511) (bf aA.out qk) ?_;exact iW (by simp only[ij,Act.put,List.setIfInBounds_toArray,List.set_cons_zero,List.set_cons_succ]) (DX (jG) _ ⟨hHeld,(zK a_).out,(zK ir).out,tF.out,tG.out,jd.out,og.out,(zT HB)⟩)
         rintro jG CK ⟨eF,bY,bZ,b_,cg,gf,gh,gm⟩;replace a_:=qa bY;have ir:=qa bZ;have tF:=qa b_;have tG:=qa cg;have jd:=qa gf;have og:=qa gh;replace HB:=qa gm;clear bY bZ b_ cg gf gh gm;have hHeld:=eF;refine iW (a':=?_) ?_ ?_;rotate_left
         ·simp only[ij,Act.put,List.setIfInBounds_toArray,List.set_cons_zero,List.set_cons_succ]
          rfl
         refine bH (i:=9) (N:=none) (zb 11 1023) rfl rfl (bL aA.out qk) qd (fun K hK=>?_);have aAY:CK.cell? ⟨jG,0,none⟩=some (.bool false):=zc ir 0;have aye:=bU ir.out 0;have as5:=jd.out;have as6:=og.out;have ac0:CK.cell? ⟨jG,1,none⟩=some (.string ⟨#[]⟩):=zc ir 1;have aa6:=bU ir.out 1;have YT:=jd.out;have YU:=og.out;refine qy (w1:=?_) (by rfl) rfl ?_ ?_;rotate_left
         ·go_simp
          rfl
         refine hK.out _ _ ⟨((cell_far (p:=⟨jG,_,none⟩) jd.out _).trans (((cell_far (p:=⟨jG,_,none⟩) jd.out _).trans (hHeld.1)))),((cell_far (p:=⟨jG,_,none⟩) jd.out _).trans (((cell_far (p:=⟨jG,_,none⟩) jd.out _).trans (hHeld.2.1)))),((cell_far (p:=⟨jG,_,none⟩) jd.out _).trans (((cell_far (p:=⟨jG,_,none⟩) jd.out _).trans (hHeld.2.2))))⟩ (fun hHeld=>?_);clear hK K;refine zU (i:=10) (N:=some 4) (zb 11 2047) (bf aA.out qk) ?_;refine mg (nH aA.out qk) ?_;have anH:=og.out;have anI:=jd.out;obtain⟨as7,as8,as9,as_⟩:=z2 ir;try go_wp2
         go_ret
         exact⟨zH,zT HB⟩
end Go.Proofs.aF.R
