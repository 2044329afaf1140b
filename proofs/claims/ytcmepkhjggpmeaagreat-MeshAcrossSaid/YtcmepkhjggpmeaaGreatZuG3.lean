import Derived.Test.YtcmepkhjggpmeaaGreatZuG5
import Derived.Deep.OwnRows
import Derived.Laws.OwnMore
import Derived.Laws.NewBlocks
import Derived.Deep.DeepCutAuto
import Derived.Deep.CutBlock
import Derived.Tactics2
import Derived.Laws.AppendOwn
set_option linter.all false
set_option maxRecDepth 100000
set_option maxHeartbeats 8000000
namespace Go.Proofs.YtcmepkhjggpmeaaGreat
open Go.RowKit aP Go.Lib
theorem YA (ad:Addr) (n c:Nat) (w:World) (hn:n<=4000)
  (h:∀ j,j<n->∃ (A:Option Addr) (l c':Nat),w.cell? (ad.add j)=some (.slice A l c')/\l<=4000) :
  Calls Tryz.prog 153 #[.slice (some ad) n c] w fun e w'=>e = .returned (.bool false)/\w=w':=by
 have H:=Lib.hid h;clear h;go_enter Tryz.func153,Tryz.ntmps153;go_wp2
 go_loop [4,7] (fun _ t=>∃ k:Nat,k<=n/\t = .int .i64 k) (fun _ t=>n-(intOf t).toNat)
 case atStart=>exact⟨0,Nat.zero_le _,rfl⟩
 case round =>
  obtain⟨k,hk,rfl⟩:=hrel;by_cases hlt:k<n
  ·obtain⟨A,l,c',hc,hl⟩:=H.out k hlt
   have h1:decide ((k:Int)<(n:Int))=true:=by simp;omega
   have h2:decide ((4000:Int)<(l:Int))=false:=by simp;omega
   go_wp2
   exact⟨⟨k+1,by omega,by go_num⟩,by simp[intOf];omega⟩
  ·have h1:decide ((k:Int)<(n:Int))=false:=by simp;omega
   go_wp2
   go_ret
   exact⟨rfl,rfl⟩
theorem ab_ (A0:Option Addr) (n c0:Nat) (l:List Int) (i:Int) (hn:l.length=n) (h0:0<=i) (w:World) (hr:RL w A0 l) :
  Calls Tryz.prog 167 #[.slice A0 n c0,.int .i64 i] w fun e w'=>e = .returned (.int .u64 (lg l i.toNat))/\w=w':=by
 obtain⟨k,rfl⟩:=Int.eq_ofNat_of_zero_le h0;rw[Int.toNat_natCast];have hl:=hr.1;by_cases hlt:k<n
 ·obtain⟨ad,rfl,hc⟩:=hr.2 aC
  have hc1:=hc k aC;have h1:decide ((k:Int)<(n:Int))=true:=by simp;omega
  clear hc hr hn hl;go_enter Tryz.func167,Tryz.ntmps167;go_wp2
  go_ret
  exact⟨rfl,rfl⟩
 ·have h1:decide ((k:Int)<(n:Int))=false:=by simp;omega
  have hz:lg l k=0:=nK aC;rw[hz];clear hr hn hl hz;go_enter Tryz.func167,Tryz.ntmps167;go_wp2
  go_ret
  exact⟨rfl,rfl⟩
theorem BM (w:World) (A0 A1:Option Addr) (n m c0 c1:Nat) (hn:n<=4000) (hm:m<=4000) :
  Calls Tryz.prog 153 #[.slice (some ⟨w.heap.size,0,none⟩) 2 2] (w.alloc (.cells #[.slice A0 n c0,.slice A1 m c1] 141)) fun e w'=>e = .returned (.bool false)/\w.alloc (.cells #[.slice A0 n c0,.slice A1 m c1] 141)=w':=by
 refine YA _ _ _ _ aC (fun j hj=>?_);match j,hj with
 | 0,_=>exact⟨A0,n,c0,by simp[Addr.add,go_sem],hn⟩
 | 1,_=>exact⟨A1,m,c1,by simp[Addr.add,go_sem],hm⟩
theorem aaE (w:World) (A0:Option Addr) (n c0:Nat) (hn:n<=4000) :
  Calls Tryz.prog 153 #[.slice (some ⟨w.heap.size,0,none⟩) 1 1] (w.alloc (.cells #[.slice A0 n c0] 141)) fun e w'=>e = .returned (.bool false)/\w.alloc (.cells #[.slice A0 n c0] 141)=w':=by
 refine YA _ _ _ _ aC (fun j hj=>?_);match j,hj with
 | 0,_=>exact⟨A0,n,c0,by simp[Addr.add,go_sem],hn⟩
theorem X5:(Tryz.prog.info? 140).map (fun i=>(i.zero,i.size,i.bytes))=some (some (.int .u64 0),1,8):=by kernel_rfl
theorem qX (n:Nat) (hn:n<=100000) (w:World):(Instr.makeSlice 141 (.int .i64 (n:Int)) (.int .i64 (n:Int))).run Tryz.prog w = .ok (.slice (some ⟨w.heap.size,0,none⟩) n n) (w.alloc (.cells (madeCells #[.int .u64 0] n) 140)) :=
 run_make_row' 141 140 (.int .u64 0) 8 Tryz.underlying141 X5 (by kernel_rfl) .i64 .i64 n aC aC w
theorem qY (w:World) (n:Nat):cO (w.alloc (.cells (madeCells #[.int .u64 0] n) 140)) w.heap.size (List.replicate n 0):=by
 refine⟨madeCells #[.int .u64 0] n,?_,by rw[size_madeCells];simp,fun j hj=>?_⟩
 ·rw[show(w.alloc (.cells (madeCells #[.int .u64 0] n) 140)).heap=w.heap.push (.cells (madeCells #[.int .u64 0] n) 140) from rfl,Array.getElem?_push_size]
 ·rw[l7]
  rw[List.length_replicate]at hj
  have:(madeCells #[.int .u64 0] n).toList[j]?=some (.int .u64 0):=by rw[toList_madeCells_one];simp[hj]
  simpa using this
def Ka (v:Int) (w:World) (e:Ending) (w':World):Prop:=∃ x r,e = .returned (.tuple #[x,.int .i64 0])/\pO w' x r/\aG r/\Tr r/\lv r=v/\Below w.heap.size w w'
theorem Rx {w wr:World} {A:Option Addr} {L:List Int} {n nd:Nat} {v:Int} (hn:L.length=n) (hr:RL wr A L) (hl:aG L) (hv:lv L=v) (hb:Below w.heap.size w wr) :
  Ka v w (.returned (.tuple #[.slice A (bl L n) (bl L n),.int .i64 0])) (wr.drewN nd):=by
 subst hn;exact⟨_,L.take (bl L L.length),rfl,⟨A,_,by rw[fO],by rw[fO];exact Nat.le_refl _,(hr.take _).dI _⟩,hl.take _,kA _,by rw[eo];exact hv,gI hb _⟩
structure ab' (g N:Nat) (x y:List Int) (w:World) (k:Nat) (c:Int) (L':List Int) (w1:World):Prop where
 blk:cO w1 g L'
 len:L'.length=N
 lim:aG L'
 bit:c=0\/c=1
 val:win L' 0 k+c*B^k=aK (lg x) k+aK (lg y) k
 only:bN g w w1
theorem amJ (A0 A1:Option Addr) (n m c0 c1:Nat) (a b:List Int) (hn:a.length=n) (hm:b.length=m) (fW:n<=4000) (jL:m<=4000) (w:World) (ha:RL w A0 a) (hb:RL w A1 b) (hla:aG a) (hlb:aG b) :
  Calls Tryz.prog 141 #[.slice A0 n c0,.slice A1 m c1] w (Ka (lv a+lv b) w):=by
 have HA:=Lib.hid ha;have HN:=Lib.hid hn;have HB:=Lib.hid hb;have HM:=Lib.hid hm;have rW:=Lib.hid hla;have pP:=Lib.hid hlb;clear ha hn hb hm hla hlb;go_enter Tryz.func141,Tryz.ntmps141;go_wp2_with fail
 refine(BM _ _ _ _ _ _ _ fW jL).mono ?_;rintro e w' ⟨rfl,rfl⟩;have hb0:Below w.heap.size w (w.alloc (.cells #[.slice A0 n c0,.slice A1 m c1] 141)):=(Below.refl _ _).alloc (Nat.le_refl _) _;generalize hw1:w.alloc (.cells #[.slice A0 n c0,.slice A1 m c1] 141)=w1 at *;have jy:=Lib.hid (HA.out.below hb0 (Nat.le_refl _));have bu:=Lib.hid (HB.out.below hb0 (Nat.le_refl _));have HS:=Lib.hid hb0;clear hb0 hw1;go_upto_if 18 with fail
 go_cut [0,1] (fun s t w2=>∃ (X Y:Option Addr) (p q cx cy:Nat) (x y:List Int),s = .slice X p cx/\t = .slice Y q cy/\q<=p/\p<=4000/\Hid (x.length=p/\y.length=q/\RL w1 X x/\RL w1 Y y/\aG x/\aG y/\lv x+lv y=lv a+lv b)/\w1=w2)
 case first =>
  by_cases hlt:n<m
  ·have h1:decide (n<m)=true:=by simpa using hlt
   go_wp2
   go_meet
   exact⟨A1,A0,m,n,c1,c0,b,a,rfl,rfl,by omega,by omega,⟨HM.out,HN.out,bu.out,jy.out,pP.out,rW.out,by omega⟩,rfl⟩
  ·have h1:decide (n<m)=false:=by simpa using hlt
   go_wp2
   go_meet
   exact⟨A0,A1,n,m,c0,c1,a,b,rfl,rfl,by omega,by omega,⟨HN.out,HM.out,jy.out,bu.out,rW.out,pP.out,rfl⟩,rfl⟩
 case rest =>
  obtain⟨X,Y,p,q,cx,cy,x,y,rfl,rfl,Ae,hp,HH,rfl⟩:=hcut;have hmk:=qX (p+1) aC;rw[show((p+1:Nat):Int)=(p:Int)+1 by omega]at hmk
  go_wp2
  have hb1:Below w1.heap.size w1 (w1.alloc (.cells (madeCells #[.int .u64 0] (p+1)) 140)):=(Below.refl _ _).alloc (Nat.le_refl _) _;have dn:=qY w1 (p+1);have hsz:=HS.out.size;generalize hg:w1.heap.size=g at *;obtain⟨hxl,hyl,hx,hy,oD,wF,hsum⟩:=HH.out;have hX:=Lib.hid (hx.below hb1 aC);have hY:=Lib.hid (hy.below hb1 aC);have hXg:=Lib.hid (fun h ad e=>Nat.ne_of_lt (by rw[<- hg];exact hx.lt h ad e):0<x.length->∀ ad,X=some ad->ad.block≠g);have hYg:=Lib.hid (fun h ad e=>Nat.ne_of_lt (by rw[<- hg];exact hy.lt h ad e):0<y.length->∀ ad,Y=some ad->ad.block≠g);have hW:=Lib.hid (HS.out.trans (hb1.mono hsz));generalize hw3:w1.alloc (.cells (madeCells #[.int .u64 0] (p+1)) 140)=w3 at *;have HK:=Lib.hid (show ab' g (p+1) x y w3 0 0 (List.replicate (p+1) 0) w3 from ⟨dn,by simp,iI _,.inl rfl,by simp[win,aK],bN.refl _ _⟩);have HG:=Lib.hid hg;clear hb1 dn hmk hxl hyl hx hy hsum hw3 hg;go_loopw [7,9,27] (fun cv _ t w4=>∃ (k:Nat) (c:Int) (L':List Int),k<=p+1/\t = .int .i64 k/\cv = .int .u64 c/\ab' g (p+1) x y w3 k c L' w4) (fun _ _ t _=>p+1-(intOf t).toNat)
  case atStart=>exact⟨0,0,_,Nat.zero_le _,rfl,rfl,HK.out⟩
  case round =>
   obtain⟨k,c,L',hk,rfl,rfl,hI⟩:=hrel;have HI:=Lib.hid hI;by_cases hlt:k<p+1
   ·have h1:decide ((k:Int)<(p:Int)+1)=true:=by simp;omega
    have hfr:=hI.blk.free k;have hce:=hI.blk.cell k (by rw[hI.len];omega);have To:=Qm (lg x k) (lg y k) c (oD k) (wF k) hI.bit;have hst:=Lib.hid (mR (by rw[hI.len];omega) hI.lim oD wF hI.bit hI.val);have KO:=hX.out.only hI.only hXg.out;have O5:=hY.out.only hI.only hYg.out;have sZ:=Lib.hid KO;have Af:=Lib.hid O5;clear hI KO O5 HK;go_wp2_with fail
    refine(ab_ _ _ _ x _ HH.out.1 aC _ sZ.out).mono ?_;rintro e w5 ⟨rfl,rfl⟩;rw[Int.toNat_natCast];go_wp2_with fail
    refine(ab_ _ _ _ y _ HH.out.2.1 aC _ Af.out).mono ?_;rintro e w5 ⟨rfl,rfl⟩;rw[Int.toNat_natCast];go_wp2
    have jK:=HI.out;obtain⟨s1,s2,s3⟩:=hst.out;exact⟨⟨k+1,_,_,by omega,by go_num,rfl,⟨jK.blk.set _ _,by rw[List.length_set];exact jK.len,s1,s2,s3,jK.only.set _ _⟩⟩,by simp[intOf];omega⟩
   ·have he:k=p+1:=by omega
    subst he;have h1:decide (((p+1:Nat):Int)<(p:Int)+1)=false:=by simp
    have hrl:=hI.blk.RL (by rw[hI.len];omega);have sS:=mW (n:=p) hI.len hI.lim oD wF (by rw[HH.out.1];exact Nat.le_refl _) (by rw[HH.out.2.1];exact Ae) hI.bit hI.val;have hlen:=hI.len;have HF:=Lib.hid sS;have HR:=Lib.hid hrl;have wG:=Lib.hid hlen;clear hI hrl sS hlen HK;go_wp2_with fail
    refine(ku _ (p+1) _ L' wG.out (Nat.le_refl _) _ HR.out).mono ?_;rintro e w5 ⟨rfl,⟨nd,rfl⟩⟩;go_wp2
    go_ret2
    exact Rx wG.out HR.out HI.out.lim (HF.out.trans HH.out.2.2.2.2.2.2) (bN.below hW.out HI.out.only (by have:=HG.out;omega))
theorem afg {P:Program} (w:World) (base:Nat) (t ty e:TypeId) (i:TypeInfo) (size:Nat) (ht:P.underlying t=some (.slice e)) (hi:P.info? e=some i)
  (v:Value) (n:Nat) (xs:List Value) (hown:w.ownsRow base e size v n xs) (c:Nat):(Builtin.append_ #[t,t] ty #[v,.slice none 0 c]).run P w = .ok v w:=by
 rcases hown.2 with ⟨rfl,rfl⟩|⟨g,cap,cur,rfl,_,_,hnc,_⟩
 ·simp[Builtin.append_,run_underlying ht,sizeOf,typeInfo,hi,Builtin.lenOf,Builtin.firstCells]
 ·simp[Builtin.append_,run_underlying ht,sizeOf,typeInfo,hi,Builtin.lenOf,Builtin.firstCells,hnc,storeCells]
theorem ahe (W:World) (g0 m c ty:Nat) (A:Option Addr) (l:List Int) (hg:W.heap[g0]?=some (.cells #[] 140 (0,0))) (hl:l.length=m) (hm:m<=100000) (hr:RL W A l) :
  ∃ g cap w',(Builtin.append_ #[141,141] ty #[.slice (some ⟨g0,0,none⟩) 0 0,.slice A m c]).run Tryz.prog W = .ok (.slice (some ⟨g,0,none⟩) m cap) w'/\cO w' g l/\g0<=g/\Below g0 W w'/\m<=cap:=by
 have hlt:g0<W.heap.size:=(Array.getElem?_eq_some_iff.1 hg).1;have hown:W.ownsRow g0 140 1 (.slice (some ⟨g0,0,none⟩) 0 0) 0 []:=⟨rfl,.inr ⟨g0,0,#[],rfl,Nat.le_refl _,hg,Nat.le_refl _,by simp[maxLen],rfl,rfl⟩⟩
 obtain⟨i,hi,hzz⟩:=Option.map_eq_some_iff.1 X5;simp only[Prod.mk.injEq]at hzz;obtain⟨hz,hs,hb⟩:=hzz;rcases A with _|ad
 ·have h0:m=0:=by
   rcases Nat.eq_zero_or_pos m with h0|h0
   ·exact h0
   ·obtain⟨ad,h,_⟩:=hr.2 aC
    cases h
  subst h0;refine⟨g0,0,W,afg W g0 _ _ 140 i 1 Tryz.underlying141 hi _ 0 [] hown c,⟨#[],hg,by simp[hl],fun j hj=>by omega⟩,Nat.le_refl _,Below.refl _ _,Nat.le_refl _⟩
 ·have hcells:∀ j u,(l.map (Value.int .u64))[j]?=some u->W.cell? (ad.add j)=some u:=by
   intro j u hu;rw[List.getElem?_map]at hu
   obtain⟨x,hx,rfl⟩:=Option.map_eq_some_iff.1 hu;have hj:j<l.length:=(List.getElem?_eq_some_iff.1 hx).1;obtain⟨Ac,h,hc⟩:=hr.2 aC;cases h;rw[hc j hj];unfold lg;rw[List.getD_eq_getElem?_getD,hx];rfl
  obtain⟨v',w',hrun,h2,h3,h4⟩:=run_append_own (P:=Tryz.prog) W g0 141 ty 140 i (.int .u64 0) 1 8 Tryz.underlying141 hi hz hs hb rfl aC _ 0 [] hown ad m c (l.map (Value.int .u64)) (by simp[hl]) hcells (by
   intro u hu;obtain⟨x,_,rfl⟩:=List.mem_map.1 hu;rfl) (by simp only[maxLen];omega) aC aC
  rcases h2.2 with ⟨e,_⟩|⟨g,cap,cur,rfl,hbg,hh,hnc,hcm,hcs,htk⟩
  ·have:=(h4.1 e).1
   cases this
  ·rw[Nat.zero_add]at *
   refine⟨g,cap,w',hrun,⟨cur,hh,by omega,fun j hj=>?_⟩,hbg,?_,hnc⟩
   ·have hq:(cur.toList.take (m*1))[j]?=(l.map (Value.int .u64))[j]?:=by rw[htk];rfl
    rw[List.getElem?_take,if_pos aC,List.getElem?_map,List.getElem?_eq_getElem hj]at hq
    rw[<- Array.getElem?_toList,hq];unfold lg;rw[List.getD_eq_getElem?_getD,List.getElem?_eq_getElem hj];rfl
   ·exact⟨h3.os,h3.tape,h3.output,h3.size,fun k hk=>h3.block k aC (fun e=>by simp[Value.ownBlock]at e;omega)⟩
theorem YC {ops:Array Oper} {rest:List Oper} {o:Oper} {a:Act} {Q:Exit->Act->World->Prop} (hgd:o.guard=none) (s x:Operand)
  (ho:o.op = .call { callee := .builtin .append,args:=#[s,x],argTypes:=#[141,141] })
  (W:World) (g0 m c:Nat) (A:Option Addr) (l:List Int) (hs:a.eval s = .slice (some ⟨g0,0,none⟩) 0 0) (hx:a.eval x = .slice A m c)
  (hg:W.heap[g0]?=some (.cells #[] 140 (0,0))) (hl:l.length=m) (hm:m<=100000) (hr:RL W A l)
  (h:∀ g cap w',cO w' g l->g0<=g->Below g0 W w'->m<=cap->wpList Tryz.prog ops Q rest (a.put o.dst (.slice (some ⟨g,0,none⟩) m cap)) w'):wpList Tryz.prog ops Q (o::rest) a W :=
 wpList_plain hgd fun K hK=>by
  obtain⟨g,cap,w',hrun,h1,h2,h3,h4⟩:=ahe W g0 m c o.type A l hg hl hm hr
  unfold Oper.wp execOp
  simp only[ho,resolve,invoke,builtin,Sem.run_bind,Sem.run_pure,Result.andThen_ok,List.map_toArray,List.map_cons,List.map_nil,hs,hx,hrun]
  exact hK _ _ (h g cap w' h1 h2 h3 h4)
theorem Xx (W:World) (o:Obj) (g:Nat) (hg:g=W.heap.size):(W.alloc o).heap[g]?=some o:=by
 subst hg;show(W.heap.push o)[W.heap.size]?=_;rw[Array.getElem?_push_size]
def ap9 (a b:List Int) (w:World) (e:Ending) (w':World):Prop:=(lv b<=lv a->Ka (lv a-lv b) w e w')/\(lv a<lv b->e = .returned (.tuple #[.slice none 0 0,.int .i64 2])/\Below w.heap.size w w')
theorem Ts (A0 A1:Option Addr) (n m c0 c1:Nat) (a b:List Int) (hn:a.length=n) (hm:b.length=m) (fW:n<=4000) (jL:m<=4000) (hc0:n<=c0) (hc1:m<=c1) (w:World) (ha:RL w A0 a) (hb:RL w A1 b) (hla:aG a) (hlb:aG b) :
  Calls Tryz.prog 142 #[.slice A0 n c0,.slice A1 m c1] w (ap9 a b w):=by
 have hb0:Below w.heap.size w (w.alloc (.cells #[.slice A0 n c0,.slice A1 m c1] 141)):=(Below.refl _ _).alloc (Nat.le_refl _) _;have jy:=Lib.hid (ha.below hb0 (Nat.le_refl _));have bu:=Lib.hid (hb.below hb0 (Nat.le_refl _));have HN:=Lib.hid hn;have HM:=Lib.hid hm;have j7:=kI (hla.take (bl a a.length)) (hlb.take (bl b b.length)) (kA a) (kA b);rw[eo,eo,fO,fO,hn,hm]at j7
 have kM:=Lib.hid (eo a);have tV:=Lib.hid (eo b);have hpl:=fO a;have iz:=fO b;rw[hn]at kM hpl
 rw[hm]at tV iz
 have HP:=Lib.hid hpl;have HQ:=Lib.hid iz;have Hy:=qb a n;have Ag:=qb b m;have rW:=Lib.hid (hla.take (bl a n));have pP:=Lib.hid (hlb.take (bl b m));generalize hx:a.take (bl a n)=x at *;generalize hy:b.take (bl b m)=y at *;have HYE:=Lib.hid hy;have HX:=Lib.hid (show RL _ A0 x from hx ▸ jy.out.take _);have HY:=Lib.hid (show RL _ A1 y from hy ▸ bu.out.take _);have HS:=Lib.hid hb0;clear ha hb hn hm hla hlb hpl iz hx hy hb0;by_cases hlt:lv a<lv b
 ·rw[xm hlt]at j7
  have HO:=Lib.hid j7;have dM:=Lib.hid hlt;clear j7 hlt;go_enter Tryz.func142,Tryz.ntmps142;go_wp2_with fail
  refine(BM _ _ _ _ _ _ _ fW jL).mono ?_;rintro e w' ⟨rfl,rfl⟩;go_wp2_with fail
  refine(ku _ _ _ a HN.out hc0 _ jy.out).mono ?_;rintro e w5 ⟨rfl,⟨nd,rfl⟩⟩;go_wp2_with fail
  refine(ku _ _ _ b HM.out hc1 _ (bu.out.dI _)).mono ?_;rintro e w5 ⟨rfl,⟨rX,rfl⟩⟩;go_wp2_with fail
  refine(Da _ _ _ _ _ _ x y HP.out HQ.out _ (HX.out.dI _) (HY.out.dI _)).mono ?_;rintro e w5 ⟨rfl,⟨Cm,rfl⟩⟩;rw[HO.out];go_wp2
  go_ret2
  exact⟨fun h=>by have:=dM.out;omega,fun _=>⟨rfl,gI HS.out _⟩⟩
 ·have h1:decide (dN (lv a) (lv b)<0)=false:=by
   rcases sA (lv a) (lv b) with ⟨h,hc⟩|⟨h,hc⟩|⟨h,hc⟩ <;> rw[hc] <;> first|rfl|omega
  rw[<- j7]at h1
  have hpq:bl b m<=bl a n:=by
   rw[<- HP.out,<- HQ.out];apply Nat.le_of_not_lt;intro hgt;have hy:Tr y:=by rw[<- HYE.out,<- HM.out];exact kA b
   have:=kH rW.out pP.out hy hgt;rw[kM.out,tV.out]at this
   omega
  have dM:=Lib.hid (show lv y<=lv x by rw[kM.out,tV.out];omega);have HO:=Lib.hid j7;clear j7 hlt;go_enter Tryz.func142,Tryz.ntmps142;go_wp2_with fail
  refine(BM _ _ _ _ _ _ _ fW jL).mono ?_;rintro e w' ⟨rfl,rfl⟩;go_wp2_with fail
  refine(ku _ _ _ a HN.out hc0 _ jy.out).mono ?_;rintro e w5 ⟨rfl,⟨nd,rfl⟩⟩;go_wp2_with fail
  refine(ku _ _ _ b HM.out hc1 _ (bu.out.dI _)).mono ?_;rintro e w5 ⟨rfl,⟨rX,rfl⟩⟩;go_wp2_with fail
  refine(Da _ _ _ _ _ _ x y HP.out HQ.out _ (HX.out.dI _) (HY.out.dI _)).mono ?_;rintro e w5 ⟨rfl,⟨Cm,rfl⟩⟩;go_wp2_with (at_builtin;go_must (refine YC rfl (.tmp 19) (.tmp 20) rfl _ (w.heap.size+1) (bl a n) (bl a n) A0 x rfl rfl ?_ HP.out aC ?_ ?_);go_must (exact Xx _ _ _ (by simp));go_must (exact(HX.out.dI _).below ((Below.refl _ _).alloc (Nat.le_refl _) _) (Nat.le_refl _));intro g cap w2 hk hg hb2 hcap)
  have hb3:Below (w.heap.size+1) ((w.alloc (.cells #[.slice A0 n c0,.slice A1 m c1] 141)).drewN (nd+rX+Cm)) w2:=((Below.refl _ _).alloc (by simp) _).trans hb2;have hy2:=(HY.out.dI (nd+rX+Cm)).below hb3 (by simp);have O6:0<y.length->∀ ad,A1=some ad->ad.block≠g:=fun h ad e=>by
   have:=(HY.out.dI (nd+rX+Cm)).lt h ad e;simp at this;omega
  refine(SK g 0 _ _ x A1 _ _ y HQ.out _ hk rW.out (by rw[HP.out];omega) aC hy2 pP.out O6).mono ?_;rintro e w6 ⟨L',bb,rfl,Cn,vZ,v_,_,rF,hval,wg⟩;have sS:=mU (n:=bl a n) (by rw[vZ];exact HP.out) v_ rW.out HP.out pP.out (by rw[HQ.out];exact hpq) rF dM.out (by rw[HQ.out];exact hval);rw[kM.out,tV.out]at sS
  have HF:=Lib.hid sS;have HK:=Lib.hid (Cn.RL (by rw[vZ,HP.out];omega));have ew:=Lib.hid (vZ.trans HP.out);have BV:=Lib.hid v_;have lR:Below w.heap.size w w6:=bN.below ((gI HS.out _).trans (hb3.mono aC)) wg aC;clear sS Cn vZ v_ hval rF hy2 O6 hk wg;have ni:=Lib.hid lR;clear lR;go_wp2_with fail
  refine(ku _ _ _ L' ew.out aC _ HK.out).mono ?_;rintro e w7 ⟨rfl,⟨VK,rfl⟩⟩;go_wp2
  go_ret2
  exact⟨fun _=>Rx ew.out HK.out BV.out HF.out ni.out,fun h=>by have:=dM.out;rw[kM.out,tV.out]at this;omega⟩
structure acd (g N m:Nat) (a b:List Int) (w:World) (k:Nat) (L':List Int) (w1:World):Prop where
 blk:cO w1 g L'
 len:L'.length=N
 lim:aG L'
 zero:∀ j,k+m<=j->lg L' j=0
 val:win L' 0 (k+m)=aK (lg a) k*lv b
 only:bN g w w1
theorem bN.trans {g:Nat} {a b c:World} (h:bN g a b) (k:bN g b c):bN g a c :=
 ⟨k.os.trans h.os,k.tape.trans h.tape,k.output.trans h.output,k.size.trans h.size,fun i hi=>(k.block i hi).trans (h.block i hi)⟩
theorem amK (A0 A1:Option Addr) (n m c0 c1:Nat) (a b:List Int) (hn:a.length=n) (hm:b.length=m) (fW:n<=4000) (jL:m<=4000) (w:World) (ha:RL w A0 a) (hb:RL w A1 b) (hla:aG a) (hlb:aG b) :
  Calls Tryz.prog 136 #[.slice A0 n c0,.slice A1 m c1] w (Ka (lv a*lv b) w):=by
 have hb0:Below w.heap.size w (w.alloc (.cells #[.slice A0 n c0,.slice A1 m c1] 141)):=(Below.refl _ _).alloc (Nat.le_refl _) _;have ha1:=ha.below hb0 (Nat.le_refl _);have hb1:=hb.below hb0 (Nat.le_refl _);have hmk:=qX (n+m) aC;rw[show((n+m:Nat):Int)=(n:Int)+(m:Int) by omega]at hmk
 have HN:=Lib.hid hn;have HM:=Lib.hid hm;have rW:=Lib.hid hla;have pP:=Lib.hid hlb;have jy:=Lib.hid ha1;have bu:=Lib.hid hb1;have HS:=Lib.hid hb0;clear ha hb hn hm hla hlb hb0 ha1 hb1;go_enter Tryz.func136,Tryz.ntmps136;go_wp2_with (go_at_call 153;refine(BM _ _ _ _ _ _ _ fW jL).mono ?_;rintro e w' ⟨rfl,rfl⟩)
 have hb1:Below (w.heap.size+1) (w.alloc (.cells #[.slice A0 n c0,.slice A1 m c1] 141)) ((w.alloc (.cells #[.slice A0 n c0,.slice A1 m c1] 141)).alloc (.cells (madeCells #[.int .u64 0] (n+m)) 140)):=(Below.refl _ _).alloc (by simp) _;have dn:=qY (w.alloc (.cells #[.slice A0 n c0,.slice A1 m c1] 141)) (n+m);rw[show(w.alloc (.cells #[.slice A0 n c0,.slice A1 m c1] 141)).heap.size=w.heap.size+1 by simp]at dn
 have hx1:=jy.out.below hb1 (by simp);have hy1:=bu.out.below hb1 (by simp);have iM:0<a.length->∀ ad,A0=some ad->ad.block≠w.heap.size+1:=fun h ad e=>Nat.ne_of_lt (by have:=jy.out.lt h ad e;simpa using this);have s6:0<b.length->∀ ad,A1=some ad->ad.block≠w.heap.size+1:=fun h ad e=>Nat.ne_of_lt (by have:=bu.out.lt h ad e;simpa using this);have lR:=HS.out.trans (hb1.mono aC);generalize hw3:(w.alloc (.cells #[.slice A0 n c0,.slice A1 m c1] 141)).alloc (.cells (madeCells #[.int .u64 0] (n+m)) 140)=w3 at *;have HG:w.heap.size<=w.heap.size+1:=by omega
 generalize w.heap.size+1=g at *;have jw:=Lib.hid (show acd g (n+m) m a b w3 0 (List.replicate (n+m) 0) w3 from ⟨dn,by simp,iI _,fun j _=>l7 _ _,by
  have:win (List.replicate (n+m) 0) 0 (0+m)=0:=jc (m:=0) aC fun j _ _=>l7 _ _;rw[this];simp[aK],bN.refl _ _⟩)
 have HX:=Lib.hid hx1;have HY:=Lib.hid hy1;have pg:=Lib.hid iM;have Co:=Lib.hid s6;have ni:=Lib.hid lR;clear dn hx1 hy1 iM s6 lR hb1 hw3 hmk;go_loopw [7,8,21] (fun _ _ t w4=>∃ (k:Nat) (L':List Int),k<=n/\t = .int .i64 k/\acd g (n+m) m a b w3 k L' w4) (fun _ _ t _=>n-(intOf t).toNat)
 case atStart=>exact⟨0,_,Nat.zero_le _,rfl,jw.out⟩
 case round =>
  obtain⟨k,L',hk,rfl,hI⟩:=hrel;by_cases hlt:k<n
  ·have h1:decide ((k:Int)<(n:Int))=true:=by simp;omega
   obtain⟨ad,rfl,bW⟩:=(HX.out.only hI.only pg.out).2 (by have:=HN.out;omega);have hc2:=bW k (by have:=HN.out;omega);have O5:=Lib.hid (HY.out.only hI.only Co.out);have HI:=Lib.hid hI;clear hI bW;go_wp2_with fail
   refine(Xo g k m _ L' A1 _ b (lg a k) HM.out _ HI.out.blk HI.out.lim (by rw[HI.out.len];omega) O5.out pP.out Co.out (rW.out k)).mono ?_;rintro e w5 ⟨L2,c,rfl,O7,NS,aaF,aaG,hcc,aaH,Z4⟩;have hv:win L2 k m+c*B^m=win L' k m+lg a k*lv b:=by
    rw[aaH,<- HM.out];rfl
   have hst:=mV (L':=L') NS (by rw[HI.out.len];omega) aaF aaG HI.out.zero hcc hv HI.out.val;have hce:=O7.cell (k+m) (by rw[NS,HI.out.len];omega);have hfr:=O7.free (k+m);have HST:=Lib.hid hst;have H5:=Lib.hid (And.intro O7 (And.intro (NS.trans HI.out.len) (HI.out.only.trans Z4)));clear hst O7 NS aaF aaG hcc aaH Z4 hv;go_wp2
   obtain⟨s1,s2,s3⟩:=HST.out;obtain⟨t1,t2,t3⟩:=H5.out;exact⟨⟨k+1,_,by omega,by go_num,⟨t1.set _ _,by rw[List.length_set];exact t2,s1,s2,s3,t3.set _ _⟩⟩,by simp[intOf];omega⟩
  ·have he:k=n:=by omega
   subst he;have h1:decide ((k:Int)<(k:Int))=false:=by simp
   have hlv:lv L'=lv a*lv b:=by
    have h2:=hI.val;have h3:=hI.len;rw[<- h3,eH]at h2
    rw[h2];unfold lv;rw[HN.out]
   have HF:=Lib.hid hlv;have HR:=Lib.hid (hI.blk.RL (by rw[hI.len];omega));have HI:=Lib.hid hI;clear hI hlv;go_wp2_with fail
   refine(ku _ _ _ L' HI.out.len aC _ HR.out).mono ?_;rintro e w7 ⟨rfl,⟨VK,rfl⟩⟩;go_wp2
   go_ret2
   exact Rx HI.out.len HR.out HI.out.lim HF.out (bN.below ni.out HI.out.only HG)
end Go.Proofs.YtcmepkhjggpmeaaGreat
