import Derived.Test.YtfcjnhkkfmgmpaaGreatZtG33
set_option linter.all false
set_option maxRecDepth 100000
set_option maxHeartbeats 8000000
namespace Go.Proofs.aA.R
open Go.RowKit Go.Proofs.aA.Z Go.Proofs.aB.aZ Go.Proofs.aB.bT Go.Proofs.aB.bX
attribute [local go_sem] cm ct cz cA cj ck cu cw
mutual
def fA.j0:Nat->Bool->Bool->ByteArray->ByteArray->Option (Int)
 | 0,_,_,_,_=>none
 | k+1,x15,CF,CG,CJ=>if x15=true then (some 5) else ((wY.f CF CG).bind fun t228=>(if t228=0 then ((jL.f CF CG CJ).bind fun aeL=>((wY.f aeL.1 aeL.2).bind fun t231=>(if t231=0 then (fA.j1 k (CJ.toList==([]:List UInt8)) CF CG CJ) else (fA.j1 k true CF CG CJ)))) else (fA.j1 k true CF CG CJ)))
def fA.j1:Nat->Bool->Bool->ByteArray->ByteArray->Option (Int)
 | 0,_,_,_,_=>none
 | k+1,x30,CF,CG,CJ=>if x30=true then (some 1) else (if CJ.toList=([1]:List UInt8) then (some 0) else ((jL.f CF CG CJ).bind fun aeM=>((tS.f CF CG aeM.1 aeM.2).bind fun aqK=>(if aqK.2.1.toList=([1]:List UInt8) then (some 0) else (some 1)))))
end
def fA.f (k:Nat) (af:Bool) (aa aj:ByteArray):Option (Int):=if (aa.size:Int) > 8000 then (fA.j0 k true af aa aj) else (fA.j0 k (decide ((aj.size:Int) > 8000)) af aa aj)
def fA.T7:Bool × List (List Nat × List Nat):=(true,[([],[]),([0],[0]),([],[]),([2],[2]),([1,3,3],[1,3]),([4],[4]),([5],[5]),([5],[5]),([],[]),([8,6,4,0,1,2,3,4,5,6,8],[6,8]),([7,9,0,1,2,3,4,5,6,7,8,9],[7])])
def fA.B7:List Nat:=[0,1,0,4,15,31,63,63,0,383,1023]
theorem fA.RN:ia .any (opsOf Tryz.f95 7)=fA.T7:=by kernel_rfl
theorem fA.QY:nh fA.T7.2 fA.B7=true:=by kernel_rfl
theorem fA.calls (k:Nat) (af:Bool) (aa aj:ByteArray) (r:Int) (w:World) (h:fA.f k af aa aj=some r) :
  Calls Tryz.prog 95 #[.agg #[.bool af,.string aa,.string aj]] w fun e w'=>e = .returned (.int .i64 r)/\Below w.heap.size w w':=by
 have ji:=Tryz.underlying40;have Be:=Tryz.underlying38;have xW:=ze;have BJ:=zf;have hf2:=zg;have hf3:=zh;have HB:=qa (Below.refl w.heap.size w);unfold fA.f at h;have H:=h;clear h;have tD:=qa H;clear H;go_enter Tryz.func95,Tryz.ntmps95;go_upto_region 1 with (first|((with_reducible refine aR (N:=1) rfl ?_);(try(refine Et (by rfl) ?_;dsimp only));refine zY 1 #[.bool af,.string aa,.string aj] 40 ?_;intro oD hg w3 ah hb;have bk:=qa (ah);have azW:=zG hg HB;have azX:=zG hg HB;replace HB:=zS HB hb;clear hb ah hg))
 (try simp only[Act.put,List.setIfInBounds_toArray,List.set_cons_zero,List.set_cons_succ])
 go_cut [15] (fun v15 wc=>∃ (kq:Nat) (QZ:Bool),v15 = .bool QZ/\aO (fA.j0 kq QZ af aa aj=some r)/\aO (kq<=k)/\aO (wc.heap[oD]?=some (.cells #[.bool af,.string aa,.string aj] 40 (0,0)))/\aO (Below w.heap.size w wc))
 case first =>
  have H:=tD.out;clear tD;by_cases c4:(aa.size:Int) > 8000
  ·rw[if_pos c4]at H
   have fW:=decide_eq_true c4;have oY:decide (8000<aa.size)=true:=decide_eq_true qo;clear c4
   (first|rw[fW]|(simp only[dL,dM];rw[fW])|skip)
   have H':=qa H;clear H;obtain⟨Fv,Fw,Fx,Fy,Fz,FA⟩:=z3 bk;go_wp2
   go_meet
   case rel=>exact⟨_,(true),zR,H',zL,zK bk,⟨zT HB⟩⟩
  ·rw[if_neg c4]at H
   have fW:=decide_eq_false c4;have oY:decide (8000<aa.size)=false:=decide_eq_false qo;clear c4
   (first|rw[fW]|(simp only[dL,dM];rw[fW])|skip)
   have H':=qa H;clear H;obtain⟨xu,xw,AJ,xx,xy,AK⟩:=z3 bk;go_wp2
   go_meet
   case rel=>exact⟨_,(decide ((aj.size:Int) > 8000)),zR,H',zL,zK bk,⟨zT HB⟩⟩
 case rest =>
  clear tD;try clear p2;try clear c4;try clear fW;try clear oY;try clear Fv;try clear Fw;try clear Fx;try clear xu;try clear xw;try clear AJ;try clear Fy;try clear Fz;try clear FA;try clear xx;try clear xy;try clear AK
  obtain⟨kq,QZ,rfl,HA,Ec,bk,HB⟩:=hcut;cases kq with
  | zero=>exact absurd HA.out (by simp[fA.j0])
  | succ Zy =>
   have H:=HA.out;clear HA;simp only[fA.j0]at H;by_cases c7:QZ=true
   ·subst c7
    rw[if_pos rfl]at H
    obtain rfl:=Option.some.inj H;go_wp2
    go_ret
    exact⟨zH,zT HB⟩
   ·replace c7:=Bool.eq_false_iff.mpr c7
    subst c7;rw[if_neg zn]at H
    have cD:=qa H;clear H;go_upto_region 3 with (fail)
    go_cut [30] (fun v30 wc=>∃ (kq:Nat) (Q2:Bool),v30 = .bool Q2/\aO (fA.j1 kq Q2 af aa aj=some r)/\aO (kq<=Zy)/\aO (wc.heap[oD]?=some (.cells #[.bool af,.string aa,.string aj] 40 (0,0)))/\aO (Below w.heap.size w wc))
    case first =>
     have H:=cD.out;clear cD;obtain⟨t228,A9,H⟩:=zo H;by_cases c10:t228=0
     ·rw[if_pos c10]at H
      have oX:=beq_iff_eq.mpr c10;have C5:=bne_eq_false_iff_eq.mpr c10;clear c10
      (first|rw[oX]|(simp only[dL,dM];rw[oX])|skip)
      obtain⟨⟨t229,t230⟩,Kh,H⟩:=zo H;try dsimp only at H
      obtain⟨t231,A12,H⟩:=zo H;by_cases c13:t231=0
      ·rw[if_pos c13]at H
       have L_:=beq_iff_eq.mpr c13;have QT:=bne_eq_false_iff_eq.mpr c13;clear c13;have H':=qa H;clear H;obtain⟨CK,CL,IF,CN,CO,IG⟩:=z3 bk;go_wp2_with (first|((with_reducible refine cU (f:=107) rfl ?_);refine zO Tryz.func107 qk (wY.calls af aa t228 _ A9.out) fun tH hb=>?_;replace bk:=zB bk hb;replace HB:=zS HB hb;(try clear hb);obtain⟨EJ,EK,K2,EL,EM,K3⟩:=z3 bk)|(go_at_call 108;(with_reducible refine(jL.calls af aa aj t229 t230 _ Kh.out).mono ?_);rintro e Ee ⟨rfl,hb⟩;replace bk:=zB bk hb;replace HB:=zS HB hb;(try clear hb))|(go_at_call 107;(with_reducible refine(wY.calls t229 t230 t231 _ A12.out).mono ?_);rintro e vL ⟨rfl,hb⟩;replace bk:=zB bk hb;replace HB:=zS HB hb;(try clear hb);obtain⟨xk,xm,AF,xp,xq,AG⟩:=z3 bk))
       go_meet
       case rel=>exact⟨_,((aj.toList==([]:List UInt8))),zR,H',⟨by have:=Ec.out;first|omega|exact Nat.le_refl _⟩,zK bk,⟨zT HB⟩⟩
      ·rw[if_neg c13]at H
       have L_:=beq_eq_false_iff_ne.mpr c13;have QT:=bne_iff_ne.mpr c13;have H':=qa H;clear H;obtain⟨ED,EE,EF,EG,EH,EI⟩:=z3 bk;go_wp2_with (first|((with_reducible refine cU (f:=107) rfl ?_);refine zO Tryz.func107 qk (wY.calls af aa t228 _ A9.out) fun tI hb=>?_;replace bk:=zB bk hb;replace HB:=zS HB hb;(try clear hb);obtain⟨KT,KU,KV,KW,KX,KY⟩:=z3 bk)|(go_at_call 108;(with_reducible refine(jL.calls af aa aj t229 t230 _ Kh.out).mono ?_);rintro e BQ ⟨rfl,hb⟩;replace bk:=zB bk hb;replace HB:=zS HB hb;(try clear hb))|(go_at_call 107;(with_reducible refine(wY.calls t229 t230 t231 _ A12.out).mono ?_);rintro e BU ⟨rfl,hb⟩;replace bk:=zB bk hb;replace HB:=zS HB hb;(try clear hb)))
       go_meet
       case rel=>exact⟨_,(true),zR,H',⟨by have:=Ec.out;first|omega|exact Nat.le_refl _⟩,zK bk,⟨zT HB⟩⟩
     ·rw[if_neg c10]at H
      have oX:=beq_eq_false_iff_ne.mpr c10;have C5:=bne_iff_ne.mpr c10
      (first|rw[oX]|(simp only[dL,dM];rw[oX])|skip)
      have H':=qa H;clear H;obtain⟨ab0,ab1,ab2,ab3,ab4,ab5⟩:=z3 bk;go_wp2_with (first|((with_reducible refine cU (f:=107) rfl ?_);refine zO Tryz.func107 qk (wY.calls af aa t228 _ A9.out) fun SC hb=>?_;replace bk:=zB bk hb;replace HB:=zS HB hb;(try clear hb)))
      go_meet
      case rel=>exact⟨_,(true),zR,H',⟨by have:=Ec.out;first|omega|exact Nat.le_refl _⟩,zK bk,⟨zT HB⟩⟩
    case rest =>
     clear cD;try clear c1;try clear p2;try clear c4;try clear fW;try clear oY;try clear c7;try clear c9;try clear c10;try clear oX;try clear C5;try clear c13;try clear L_;try clear QT;try clear CK;try clear CL;try clear IF;try clear EJ;try clear EK;try clear K2;try clear xk;try clear xm;try clear AF;try clear ED;try clear EE;try clear EF;try clear KT;try clear KU;try clear KV;try clear ab0;try clear ab1;try clear ab2;try clear Fv;try clear Fw;try clear Fx;try clear xu;try clear xw;try clear AJ;try clear CN;try clear CO;try clear IG;try clear EL;try clear EM;try clear K3;try clear xp;try clear xq;try clear AG;try clear EG;try clear EH;try clear EI;try clear KW;try clear KX;try clear KY;try clear ab3;try clear ab4;try clear ab5;try clear Fy;try clear Fz;try clear FA;try clear xx;try clear xy;try clear AK;try clear p2
     obtain⟨kq,Q2,rfl,HA,HJ7,bk,HB⟩:=hcut;cases kq with
     | zero=>exact absurd HA.out (by simp[fA.j1])
     | succ kj7 =>
      have H:=HA.out;clear HA;simp only[fA.j1]at H;by_cases SF:Q2=true
      ·subst SF
       rw[if_pos rfl]at H
       obtain rfl:=Option.some.inj H;go_wp2
       go_ret
       exact⟨zH,zT HB⟩
      ·replace SF:=Bool.eq_false_iff.mpr SF
       subst SF;rw[if_neg zn]at H
       by_cases G_:aj.toList=([1]:List UInt8)
       ·rw[if_pos G_]at H
        have aqL:=beq_iff_eq.mpr G_;have aqM:=bne_eq_false_iff_eq.mpr G_;clear G_;obtain rfl:=Option.some.inj H;obtain⟨K5,K6,K7,K8,K9,K_⟩:=z3 bk;go_wp2
        go_ret
        exact⟨zH,zT HB⟩
       ·rw[if_neg G_]at H
        have aqL:=beq_eq_false_iff_ne.mpr G_;have aqM:=bne_iff_ne.mpr G_;obtain⟨⟨t232,t233⟩,Kb,H⟩:=zo H;try dsimp only at H
        obtain⟨⟨t234,t235,t236⟩,D9,H⟩:=zo H;try dsimp only at H
        by_cases He:t235.toList=([1]:List UInt8)
        ·rw[if_pos He]at H
         have aqN:=beq_iff_eq.mpr He;have aqO:=bne_eq_false_iff_eq.mpr He;clear He;obtain rfl:=Option.some.inj H;obtain⟨ab6,ab7,ab8,ab9,ab_,ab'⟩:=z3 bk;try go_wp2
         replace bk:=zD bk;replace HB:=zF HB;refine mg (n:=11) (S:=fun w'=>w'.cell? ⟨oD,0,none⟩=some (.bool af)/\w'.cell? ⟨oD,1,none⟩=some (.string aa)/\w'.cell? ⟨oD,2,none⟩=some (.string aj)) (ds:=[]) (zb 11 0) qk rfl rfl ⟨zc bk 0,zc bk 1,zc bk 2⟩ (fun hHeld=>?_);refine mZ fA.RN fA.QY (fun av bN=>?_);generalize wc.drew=SA at bk HB hHeld ⊢;refine zU (i:=0) (N:=some 35) (zb 11 1) (bf av.out qk) ?_;refine zV (i:=1) (N:=some 36) (zb 11 3) (cg av.out bN.out qk) hHeld ?_;refine zV (i:=2) (N:=some 37) (zb 11 7) (cg av.out bN.out qk) hHeld ?_;refine lO (σ:=Nat) 2 (zb 11 511) (fun s_=>[(38,.agg #[.bool t232,.string t233]),(39,.tuple #[.agg #[.bool t234,.string t235],.int .i64 t236]),(3,.pointer (some ⟨s_,0,none⟩)),(34,.tuple #[.agg #[.bool t234,.string t235],.int .i64 t236]),(40,.agg #[.bool t234,.string t235]),(41,.int .i64 t236)]) (fun s_ w'=>(w'.cell? ⟨oD,0,none⟩=some (.bool af)/\w'.cell? ⟨oD,1,none⟩=some (.string aa)/\w'.cell? ⟨oD,2,none⟩=some (.string aj))/\(w'.heap[oD]?=some (.cells #[.bool af,.string aa,.string aj] 40 (0,0)))/\(w'.heap[s_]?=some (.cells #[.bool false,.string ⟨#[]⟩] 38 (0,0)))/\(w.heap.size<=s_)/\(w.heap.size<=s_)/\(oD≠s_)/\(s_≠oD)/\(Below w.heap.size w w')) ?_ ?_;rotate_left
         ·intro wj
          refine qB (i:=3) (j:=8) (Ni:=some 38) (Nj:=some 3) (zb 11 15) (zb 11 263) rfl rfl rfl rfl (qy av.out qk) qd qd (fun K hK=>?_) (fun K hK=>?_)
          ·skip
           refine zJ Tryz.func108 qk (jL.calls af aa aj t232 t233 _ Kb.out) fun BR hb=>?_;replace bk:=zB bk hb;replace HB:=zS HB hb
           (try clear hb)
           refine hK.out _ _ ⟨zc bk 0,zc bk 1,zc bk 2⟩ (fun hHeld=>?_);clear hK K;refine zW (some 38) ?_;refine qB (i:=4) (j:=8) (Ni:=some 39) (Nj:=some 3) (zb 11 31) (zb 11 271) rfl rfl rfl rfl (qy av.out qk) qd qd (fun K hK=>?_) (fun K hK=>?_)
           ·skip
            refine zJ Tryz.func109 qk (tS.calls af aa t232 t233 t234 t235 t236 _ D9.out) fun rG hb=>?_;replace bk:=zB bk hb;replace HB:=zS HB hb
            (try clear hb)
            refine hK.out _ _ ⟨zc bk 0,zc bk 1,zc bk 2⟩ (fun hHeld=>?_);clear hK K;refine zW (some 39) ?_;refine zU (i:=5) (N:=some 34) (zb 11 63) (bf av.out qk) ?_;refine zU (i:=6) (N:=some 40) (zb 11 127) (bf av.out qk) ?_;refine zU (i:=7) (N:=some 41) (zb 11 255) (bf av.out qk) ?_;refine bM (i:=8) (N:=some 3) (zb 11 511) rfl rfl (bO av.out qk) qd (fun K hK=>?_);refine m_ ?hg (N:=3) ?hd (cs:=#[.bool false,.string ⟨#[]⟩]) (t:=38) ?hr ?_;(case hd=>rfl);(case hg=>rfl);(case hr=>first|(go_simp;done)|(go_simp;rfl))
            intro kr hg G4 ah hb;have iZ:=qa (ah);have uX:=zG hg HB;have uY:=zG hg HB;obtain⟨jI,oV⟩:=zQ hg bk;replace bk:=zB bk hb;replace HB:=zS HB hb;clear hb ah hg;refine hK.out _ _ ⟨zc bk 0,zc bk 1,zc bk 2⟩ (fun hHeld=>?_);clear hK K;refine zW (some 3) ?_;exact iP (by simp only[gR,Act.put,List.setIfInBounds_toArray,List.set_cons_zero,List.set_cons_succ]) (wj (kr) _ ⟨hHeld,(zK bk).out,(zK iZ).out,uX.out,uY.out,jI.out,oV.out,(zT HB)⟩)
           ·skip
            refine m_ ?hg (N:=3) ?hd (cs:=#[.bool false,.string ⟨#[]⟩]) (t:=38) ?hr ?_;(case hd=>rfl);(case hg=>rfl);(case hr=>first|(go_simp;done)|(go_simp;rfl))
            intro kr hg rG ah hb;have iZ:=qa (ah);have uX:=zG hg HB;have uY:=zG hg HB;obtain⟨jI,oV⟩:=zQ hg bk;replace bk:=zB bk hb;replace HB:=zS HB hb;clear hb ah hg;refine hK.out _ _ ⟨zc bk 0,zc bk 1,zc bk 2⟩ (fun hHeld=>?_);clear hK K;refine zW (some 3) ?_;refine bM (i:=4) (N:=some 39) (zb 11 287) rfl rfl (bO av.out qk) qd (fun K hK=>?_);refine zJ Tryz.func109 qk (tS.calls af aa t232 t233 t234 t235 t236 _ D9.out) fun G4 hb=>?_;obtain⟨bk,iZ⟩:=eo bk iZ hb;replace HB:=zS HB hb
            (try clear hb)
            refine hK.out _ _ ⟨zc bk 0,zc bk 1,zc bk 2⟩ (fun hHeld=>?_);clear hK K;refine zW (some 39) ?_;refine zU (i:=5) (N:=some 34) (zb 11 319) (bf av.out qk) ?_;refine zU (i:=6) (N:=some 40) (zb 11 383) (bf av.out qk) ?_;refine zU (i:=7) (N:=some 41) (zb 11 511) (bf av.out qk) ?_;exact iP (by simp only[gR,Act.put,List.setIfInBounds_toArray,List.set_cons_zero,List.set_cons_succ]) (wj (kr) _ ⟨hHeld,(zK bk).out,(zK iZ).out,uX.out,uY.out,jI.out,oV.out,(zT HB)⟩)
          ·skip
           refine m_ ?hg (N:=3) ?hd (cs:=#[.bool false,.string ⟨#[]⟩]) (t:=38) ?hr ?_;(case hd=>rfl);(case hg=>rfl);(case hr=>first|(go_simp;done)|(go_simp;rfl))
           intro kr hg BR ah hb;have iZ:=qa (ah);have uX:=zG hg HB;have uY:=zG hg HB;obtain⟨jI,oV⟩:=zQ hg bk;replace bk:=zB bk hb;replace HB:=zS HB hb;clear hb ah hg;refine hK.out _ _ ⟨zc bk 0,zc bk 1,zc bk 2⟩ (fun hHeld=>?_);clear hK K;refine zW (some 3) ?_;refine bM (i:=3) (N:=some 38) (zb 11 271) rfl rfl (bO av.out qk) qd (fun K hK=>?_);refine zJ Tryz.func108 qk (jL.calls af aa aj t232 t233 _ Kb.out) fun rG hb=>?_;obtain⟨bk,iZ⟩:=eo bk iZ hb;replace HB:=zS HB hb
           (try clear hb)
           refine hK.out _ _ ⟨zc bk 0,zc bk 1,zc bk 2⟩ (fun hHeld=>?_);clear hK K;refine zW (some 38) ?_;refine bM (i:=4) (N:=some 39) (zb 11 287) rfl rfl (bO av.out qk) qd (fun K hK=>?_);refine zJ Tryz.func109 qk (tS.calls af aa t232 t233 t234 t235 t236 _ D9.out) fun G4 hb=>?_;obtain⟨bk,iZ⟩:=eo bk iZ hb;replace HB:=zS HB hb
           (try clear hb)
           refine hK.out _ _ ⟨zc bk 0,zc bk 1,zc bk 2⟩ (fun hHeld=>?_);clear hK K;refine zW (some 39) ?_;refine zU (i:=5) (N:=some 34) (zb 11 319) (bf av.out qk) ?_;refine zU (i:=6) (N:=some 40) (zb 11 383) (bf av.out qk) ?_;refine zU (i:=7) (N:=some 41) (zb 11 511) (bf av.out qk) ?_;exact iP (by simp only[gR,Act.put,List.setIfInBounds_toArray,List.set_cons_zero,List.set_cons_succ]) (wj (kr) _ ⟨hHeld,(zK bk).out,(zK iZ).out,uX.out,uY.out,jI.out,oV.out,(zT HB)⟩)
         rintro kr G5 ⟨eP,cE,cF,cG,cH,fZ,f_,gf⟩;replace bk:=qa cE;have iZ:=qa cF;have uX:=qa cG;have uY:=qa cH;have jI:=qa fZ;have oV:=qa f_;replace HB:=qa gf;clear cE cF cG cH fZ f_ gf;have hHeld:=eP;refine iP (a':=?_) ?_ ?_;rotate_left
         ·simp only[gR,Act.put,List.setIfInBounds_toArray,List.set_cons_zero,List.set_cons_succ]
          rfl
         refine bM (i:=9) (N:=none) (zb 11 1023) rfl rfl (bO av.out qk) qd (fun K hK=>?_);have agO:G5.cell? ⟨kr,0,none⟩=some (.bool false):=zc iZ 0;have aeN:=b_ iZ.out 0;have acd:=jI.out;have ace:=oV.out;have aB':G5.cell? ⟨kr,1,none⟩=some (.string ⟨#[]⟩):=zc iZ 1;have azY:=b_ iZ.out 1;have awi:=jI.out;have awj:=oV.out;refine qA (w1:=?_) (by rfl) rfl ?_ ?_;rotate_left
         ·go_simp
          rfl
         refine hK.out _ _ ⟨((cell_far (p:=⟨kr,_,none⟩) jI.out _).trans (((cell_far (p:=⟨kr,_,none⟩) jI.out _).trans (hHeld.1)))),((cell_far (p:=⟨kr,_,none⟩) jI.out _).trans (((cell_far (p:=⟨kr,_,none⟩) jI.out _).trans (hHeld.2.1)))),((cell_far (p:=⟨kr,_,none⟩) jI.out _).trans (((cell_far (p:=⟨kr,_,none⟩) jI.out _).trans (hHeld.2.2))))⟩ (fun hHeld=>?_);clear hK K;refine zU (i:=10) (N:=some 4) (zb 11 2047) (bf av.out qk) ?_;refine mh (ng av.out qk) ?_;have aqP:=oV.out;have aqQ:=jI.out;obtain⟨ami,amj,amk,aml⟩:=z2 iZ;try go_wp2
         go_ret
         exact⟨zH,zT HB⟩
        ·rw[if_neg He]at H
         have aqN:=beq_eq_false_iff_ne.mpr He;have aqO:=bne_iff_ne.mpr He;obtain rfl:=Option.some.inj H;obtain⟨awk,awl,awm,awn,awo,awp⟩:=z3 bk;try go_wp2
         replace bk:=zD bk;replace HB:=zF HB;refine mg (n:=11) (S:=fun w'=>w'.cell? ⟨oD,0,none⟩=some (.bool af)/\w'.cell? ⟨oD,1,none⟩=some (.string aa)/\w'.cell? ⟨oD,2,none⟩=some (.string aj)) (ds:=[]) (zb 11 0) qk rfl rfl ⟨zc bk 0,zc bk 1,zc bk 2⟩ (fun hHeld=>?_);refine mZ fA.RN fA.QY (fun av bN=>?_);generalize wc.drew=Kf at bk HB hHeld ⊢;refine zU (i:=0) (N:=some 35) (zb 11 1) (bf av.out qk) ?_;refine zV (i:=1) (N:=some 36) (zb 11 3) (cg av.out bN.out qk) hHeld ?_;refine zV (i:=2) (N:=some 37) (zb 11 7) (cg av.out bN.out qk) hHeld ?_;refine lO (σ:=Nat) 2 (zb 11 511) (fun s_=>[(38,.agg #[.bool t232,.string t233]),(39,.tuple #[.agg #[.bool t234,.string t235],.int .i64 t236]),(3,.pointer (some ⟨s_,0,none⟩)),(34,.tuple #[.agg #[.bool t234,.string t235],.int .i64 t236]),(40,.agg #[.bool t234,.string t235]),(41,.int .i64 t236)]) (fun s_ w'=>(w'.cell? ⟨oD,0,none⟩=some (.bool af)/\w'.cell? ⟨oD,1,none⟩=some (.string aa)/\w'.cell? ⟨oD,2,none⟩=some (.string aj))/\(w'.heap[oD]?=some (.cells #[.bool af,.string aa,.string aj] 40 (0,0)))/\(w'.heap[s_]?=some (.cells #[.bool false,.string ⟨#[]⟩] 38 (0,0)))/\(w.heap.size<=s_)/\(w.heap.size<=s_)/\(oD≠s_)/\(s_≠oD)/\(Below w.heap.size w w')) ?_ ?_;rotate_left
         ·intro wj
          refine qB (i:=3) (j:=8) (Ni:=some 38) (Nj:=some 3) (zb 11 15) (zb 11 263) rfl rfl rfl rfl (qy av.out qk) qd qd (fun K hK=>?_) (fun K hK=>?_)
          ·skip
           refine zJ Tryz.func108 qk (jL.calls af aa aj t232 t233 _ Kb.out) fun D_ hb=>?_;replace bk:=zB bk hb;replace HB:=zS HB hb
           (try clear hb)
           refine hK.out _ _ ⟨zc bk 0,zc bk 1,zc bk 2⟩ (fun hHeld=>?_);clear hK K;refine zW (some 38) ?_;refine qB (i:=4) (j:=8) (Ni:=some 39) (Nj:=some 3) (zb 11 31) (zb 11 271) rfl rfl rfl rfl (qy av.out qk) qd qd (fun K hK=>?_) (fun K hK=>?_)
           ·skip
            refine zJ Tryz.func109 qk (tS.calls af aa t232 t233 t234 t235 t236 _ D9.out) fun BS hb=>?_;replace bk:=zB bk hb;replace HB:=zS HB hb
            (try clear hb)
            refine hK.out _ _ ⟨zc bk 0,zc bk 1,zc bk 2⟩ (fun hHeld=>?_);clear hK K;refine zW (some 39) ?_;refine zU (i:=5) (N:=some 34) (zb 11 63) (bf av.out qk) ?_;refine zU (i:=6) (N:=some 40) (zb 11 127) (bf av.out qk) ?_;refine zU (i:=7) (N:=some 41) (zb 11 255) (bf av.out qk) ?_;refine bM (i:=8) (N:=some 3) (zb 11 511) rfl rfl (bO av.out qk) qd (fun K hK=>?_);refine m_ ?hg (N:=3) ?hd (cs:=#[.bool false,.string ⟨#[]⟩]) (t:=38) ?hr ?_;(case hd=>rfl);(case hg=>rfl);(case hr=>first|(go_simp;done)|(go_simp;rfl))
            intro kr hg Ea ah hb;have iZ:=qa (ah);have uX:=zG hg HB;have uY:=zG hg HB;obtain⟨jI,oV⟩:=zQ hg bk;replace bk:=zB bk hb;replace HB:=zS HB hb;clear hb ah hg;refine hK.out _ _ ⟨zc bk 0,zc bk 1,zc bk 2⟩ (fun hHeld=>?_);clear hK K;refine zW (some 3) ?_;exact iP (by simp only[gR,Act.put,List.setIfInBounds_toArray,List.set_cons_zero,List.set_cons_succ]) (wj (kr) _ ⟨hHeld,(zK bk).out,(zK iZ).out,uX.out,uY.out,jI.out,oV.out,(zT HB)⟩)
           ·skip
            refine m_ ?hg (N:=3) ?hd (cs:=#[.bool false,.string ⟨#[]⟩]) (t:=38) ?hr ?_;(case hd=>rfl);(case hg=>rfl);(case hr=>first|(go_simp;done)|(go_simp;rfl))
            intro kr hg BS ah hb;have iZ:=qa (ah);have uX:=zG hg HB;have uY:=zG hg HB;obtain⟨jI,oV⟩:=zQ hg bk;replace bk:=zB bk hb;replace HB:=zS HB hb;clear hb ah hg;refine hK.out _ _ ⟨zc bk 0,zc bk 1,zc bk 2⟩ (fun hHeld=>?_);clear hK K;refine zW (some 3) ?_;refine bM (i:=4) (N:=some 39) (zb 11 287) rfl rfl (bO av.out qk) qd (fun K hK=>?_);refine zJ Tryz.func109 qk (tS.calls af aa t232 t233 t234 t235 t236 _ D9.out) fun Ea hb=>?_;obtain⟨bk,iZ⟩:=eo bk iZ hb;replace HB:=zS HB hb
            (try clear hb)
            refine hK.out _ _ ⟨zc bk 0,zc bk 1,zc bk 2⟩ (fun hHeld=>?_);clear hK K;refine zW (some 39) ?_;refine zU (i:=5) (N:=some 34) (zb 11 319) (bf av.out qk) ?_;refine zU (i:=6) (N:=some 40) (zb 11 383) (bf av.out qk) ?_;refine zU (i:=7) (N:=some 41) (zb 11 511) (bf av.out qk) ?_;exact iP (by simp only[gR,Act.put,List.setIfInBounds_toArray,List.set_cons_zero,List.set_cons_succ]) (wj (kr) _ ⟨hHeld,(zK bk).out,(zK iZ).out,uX.out,uY.out,jI.out,oV.out,(zT HB)⟩)
          ·skip
           refine m_ ?hg (N:=3) ?hd (cs:=#[.bool false,.string ⟨#[]⟩]) (t:=38) ?hr ?_;(case hd=>rfl);(case hg=>rfl);(case hr=>first|(go_simp;done)|(go_simp;rfl))
           intro kr hg D_ ah hb;have iZ:=qa (ah);have uX:=zG hg HB;have uY:=zG hg HB;obtain⟨jI,oV⟩:=zQ hg bk;replace bk:=zB bk hb;replace HB:=zS HB hb;clear hb ah hg;refine hK.out _ _ ⟨zc bk 0,zc bk 1,zc bk 2⟩ (fun hHeld=>?_);clear hK K;refine zW (some 3) ?_;refine bM (i:=3) (N:=some 38) (zb 11 271) rfl rfl (bO av.out qk) qd (fun K hK=>?_);refine zJ Tryz.func108 qk (jL.calls af aa aj t232 t233 _ Kb.out) fun BS hb=>?_;obtain⟨bk,iZ⟩:=eo bk iZ hb;replace HB:=zS HB hb
           (try clear hb)
           refine hK.out _ _ ⟨zc bk 0,zc bk 1,zc bk 2⟩ (fun hHeld=>?_);clear hK K;refine zW (some 38) ?_;refine bM (i:=4) (N:=some 39) (zb 11 287) rfl rfl (bO av.out qk) qd (fun K hK=>?_);refine zJ Tryz.func109 qk (tS.calls af aa t232 t233 t234 t235 t236 _ D9.out) fun Ea hb=>?_;obtain⟨bk,iZ⟩:=eo bk iZ hb;replace HB:=zS HB hb
           (try clear hb)
           refine hK.out _ _ ⟨zc bk 0,zc bk 1,zc bk 2⟩ (fun hHeld=>?_);clear hK K;refine zW (some 39) ?_;refine zU (i:=5) (N:=some 34) (zb 11 319) (bf av.out qk) ?_;refine zU (i:=6) (N:=some 40) (zb 11 383) (bf av.out qk) ?_;refine zU (i:=7) (N:=some 41) (zb 11 511) (bf av.out qk) ?_;exact iP (by simp only[gR,Act.put,List.setIfInBounds_toArray,List.set_cons_zero,List.set_cons_succ]) (wj (kr) _ ⟨hHeld,(zK bk).out,(zK iZ).out,uX.out,uY.out,jI.out,oV.out,(zT HB)⟩)
         rintro kr Eb ⟨eP,cE,cF,cG,cH,fZ,f_,gf⟩;replace bk:=qa cE;have iZ:=qa cF;have uX:=qa cG;have uY:=qa cH;have jI:=qa fZ;have oV:=qa f_;replace HB:=qa gf;clear cE cF cG cH fZ f_ gf;have hHeld:=eP;refine iP (a':=?_) ?_ ?_;rotate_left
         ·simp only[gR,Act.put,List.setIfInBounds_toArray,List.set_cons_zero,List.set_cons_succ]
          rfl
         refine bM (i:=9) (N:=none) (zb 11 1023) rfl rfl (bO av.out qk) qd (fun K hK=>?_);have aCa:Eb.cell? ⟨kr,0,none⟩=some (.bool false):=zc iZ 0;have azZ:=b_ iZ.out 0;have awq:=jI.out;have awr:=oV.out;have agH:Eb.cell? ⟨kr,1,none⟩=some (.string ⟨#[]⟩):=zc iZ 1;have aeu:=b_ iZ.out 1;have abB:=jI.out;have abC:=oV.out;refine qA (w1:=?_) (by rfl) rfl ?_ ?_;rotate_left
         ·go_simp
          rfl
         refine hK.out _ _ ⟨((cell_far (p:=⟨kr,_,none⟩) jI.out _).trans (((cell_far (p:=⟨kr,_,none⟩) jI.out _).trans (hHeld.1)))),((cell_far (p:=⟨kr,_,none⟩) jI.out _).trans (((cell_far (p:=⟨kr,_,none⟩) jI.out _).trans (hHeld.2.1)))),((cell_far (p:=⟨kr,_,none⟩) jI.out _).trans (((cell_far (p:=⟨kr,_,none⟩) jI.out _).trans (hHeld.2.2))))⟩ (fun hHeld=>?_);clear hK K;refine zU (i:=10) (N:=some 4) (zb 11 2047) (bf av.out qk) ?_;refine mh (ng av.out qk) ?_;have aeO:=oV.out;have aeP:=jI.out;obtain⟨aws,awt,awu,awv⟩:=z2 iZ;try go_wp2
         go_ret
         exact⟨zH,zT HB⟩
end Go.Proofs.aA.R
