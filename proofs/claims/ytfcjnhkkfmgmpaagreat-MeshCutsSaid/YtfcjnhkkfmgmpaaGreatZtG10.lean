import Derived.Test.YtfcjnhkkfmgmpaaGreatZtG9
set_option linter.all false
set_option maxRecDepth 100000
set_option maxHeartbeats 8000000
namespace Go.Proofs.YtfcjnhkkfmgmpaaGreat
open Go.RowKit aS
def ago (n1:Bool) (s1:ByteArray) (n2:Bool) (s2:ByteArray) (w:World) (e:Ending) (w':World):Prop :=
 (iz n1 s1 n2 s2≠0->e = .returned (.tuple #[.agg #[.bool false,.string ⟨#[]⟩],.agg #[.bool false,.string ⟨#[]⟩],.int .i64 (iz n1 s1 n2 s2)])) /\
 (iz n1 s1 n2 s2=0->nv s2=0->e = .returned (.tuple #[.agg #[.bool false,.string ⟨#[]⟩],.agg #[.bool false,.string ⟨#[]⟩],.int .i64 3])) /\
 (iz n1 s1 n2 s2=0->nv s2≠0->e = .returned (.tuple #[qC (ival n1 s1 / ival n2 s2),qC (ival n1 s1%ival n2 s2),.int .i64 0]))/\Below w.heap.size w w'
structure XM (w2 w6:World) (hq hr:Nat) (bq br:Bool) (A:Option Addr) (k c:Nat) (A':Option Addr) (k' c':Nat):Prop where
 x0:w6.cell? ⟨hq,0,none⟩=some (.bool bq)
 x1:w6.cell? ⟨hq,1,none⟩=some (.slice A k c)
 x2:w6.cell? ⟨hr,0,none⟩=some (.bool br)
 x3:w6.cell? ⟨hr,1,none⟩=some (.slice A' k' c')
 x4:w6.frozen? ⟨hq,0,none⟩=false
 x5:w6.frozen? ⟨hq,1,none⟩=false
 x6:w6.frozen? ⟨hr,0,none⟩=false
 x7:w6.frozen? ⟨hr,1,none⟩=false
 eM:Below w2.heap.size w2 w6
 lq:w2.heap.size<=hq
 lr:w2.heap.size<=hr
 gq:hq<w6.heap.size
 gr:hr<w6.heap.size
 ne:¬ hq=hr
theorem apb (w2:World) (bq br:Bool) (A:Option Addr) (k c:Nat) (A':Option Addr) (k' c':Nat):XM w2 ((w2.alloc (.cells #[.bool bq,.slice A k c] 151)).alloc (.cells #[.bool br,.slice A' k' c'] 151)).drew w2.heap.size (w2.heap.size+1) bq br A k c A' k' c' :=
 ⟨by simp[go_sem],by simp[go_sem],by simp[go_sem],by simp[go_sem],by simp[go_sem],by simp[go_sem],by simp[go_sem],by simp[go_sem],(((Below.refl _ _).alloc (Nat.le_refl _) _).alloc (by simp) _).drew,by omega,by omega,by simp;try omega,by simp;try omega,by omega⟩
theorem apc (w2:World) (bq br:Bool) (A:Option Addr) (k c:Nat) (A':Option Addr) (k' c':Nat):XM w2 ((w2.alloc (.cells #[.bool br,.slice A' k' c'] 151)).alloc (.cells #[.bool bq,.slice A k c] 151)).drew (w2.heap.size+1) w2.heap.size bq br A k c A' k' c' :=
 ⟨by simp[go_sem],by simp[go_sem],by simp[go_sem],by simp[go_sem],by simp[go_sem],by simp[go_sem],by simp[go_sem],by simp[go_sem],(((Below.refl _ _).alloc (Nat.le_refl _) _).alloc (by simp) _).drew,by omega,by omega,by simp;try omega,by simp;try omega,by omega⟩
theorem dR {w:World} {g h i:Nat} {u v:Value} {X:Option Value} (hne:¬ g=h) (hc:w.cell? ⟨g,i,none⟩=X):((w.setCell ⟨h,0,none⟩ u).setCell ⟨h,1,none⟩ v).cell? ⟨g,i,none⟩=X :=
 (cell_far _ _ _ _ _ _ hne).trans ((cell_far _ _ _ _ _ _ hne).trans hc)
structure qW (n:Nat) (n2:Bool) (wx:World) (hq hr:Nat) (bq:Bool) (A:Option Addr) (k c:Nat) (br:Bool) (A':Option Addr) (k' c':Nat):Prop where
 x0:wx.cell? ⟨hq,0,none⟩=some (.bool bq)
 x1:wx.cell? ⟨hq,1,none⟩=some (.slice A k c)
 x2:wx.cell? ⟨hr,0,none⟩=some (.bool br)
 x3:wx.cell? ⟨hr,1,none⟩=some (.slice A' k' c')
 x4:wx.frozen? ⟨hq,0,none⟩=false
 x5:wx.frozen? ⟨hq,1,none⟩=false
 x6:wx.frozen? ⟨hr,0,none⟩=false
 x7:wx.frozen? ⟨hr,1,none⟩=false
 p1:wx.cell? ⟨n+1,0,none⟩=some (.bool n2)
 p2:wx.cell? ⟨n+2,0,none⟩=some (.bool false)
 p3:wx.cell? ⟨n+2,1,none⟩=some (.string ⟨#[]⟩)
 p4:wx.frozen? ⟨n+2,0,none⟩=false
 p5:wx.frozen? ⟨n+2,1,none⟩=false
 p6:wx.cell? ⟨n+3,0,none⟩=some (.bool false)
 p7:wx.cell? ⟨n+3,1,none⟩=some (.string ⟨#[]⟩)
 p8:wx.frozen? ⟨n+3,0,none⟩=false
 p9:wx.frozen? ⟨n+3,1,none⟩=false
 gq:hq<wx.heap.size
 gr:hr<wx.heap.size
 gl:n+3<wx.heap.size
 lq:n+3<hq
 lr:n+3<hr
 ne:¬ hq=hr
theorem qW.below {n:Nat} {n2:Bool} {wx w':World} {hq hr:Nat} {bq:Bool} {A:Option Addr} {k c:Nat} {br:Bool} {A':Option Addr} {k' c':Nat} (h:qW n n2 wx hq hr bq A k c br A' k' c') {B:Nat} (hb:Below B wx w') (hB:wx.heap.size<=B):qW n n2 w' hq hr bq A k c br A' k' c':=by
 have g1:=h.gq;have g2:=h.gr;have g3:=h.gl;have g4:=hb.size
 exact⟨(hb.cell (by simp;omega)).trans h.x0,(hb.cell (by simp;omega)).trans h.x1,(hb.cell (by simp;omega)).trans h.x2,(hb.cell (by simp;omega)).trans h.x3,(hb.frozen (by simp;omega)).trans h.x4,(hb.frozen (by simp;omega)).trans h.x5,(hb.frozen (by simp;omega)).trans h.x6,(hb.frozen (by simp;omega)).trans h.x7,
  (hb.cell (by simp;omega)).trans h.p1,(hb.cell (by simp;omega)).trans h.p2,(hb.cell (by simp;omega)).trans h.p3,(hb.frozen (by simp;omega)).trans h.p4,(hb.frozen (by simp;omega)).trans h.p5,(hb.cell (by simp;omega)).trans h.p6,(hb.cell (by simp;omega)).trans h.p7,(hb.frozen (by simp;omega)).trans h.p8,(hb.frozen (by simp;omega)).trans h.p9,by omega,by omega,by omega,h.lq,h.lr,h.ne⟩
theorem qW.heap {n:Nat} {n2:Bool} {wx wy:World} {hq hr:Nat} {bq:Bool} {A:Option Addr} {k c:Nat} {br:Bool} {A':Option Addr} {k' c':Nat} (h:qW n n2 wx hq hr bq A k c br A' k' c') (e:wy.heap=wx.heap):qW n n2 wy hq hr bq A k c br A' k' c':=by
 have e1:∀ p,wy.cell? p=wx.cell? p:=fun p=>by unfold World.cell?;rw[e]
 have e2:∀ p,wy.frozen? p=wx.frozen? p:=fun p=>by unfold World.frozen?;rw[e]
 exact⟨(e1 _).trans h.x0,(e1 _).trans h.x1,(e1 _).trans h.x2,(e1 _).trans h.x3,(e2 _).trans h.x4,(e2 _).trans h.x5,(e2 _).trans h.x6,(e2 _).trans h.x7,(e1 _).trans h.p1,(e1 _).trans h.p2,(e1 _).trans h.p3,(e2 _).trans h.p4,(e2 _).trans h.p5,(e1 _).trans h.p6,(e1 _).trans h.p7,(e2 _).trans h.p8,(e2 _).trans h.p9,by rw[e];exact h.gq,by rw[e];exact h.gr,by rw[e];exact h.gl,h.lq,h.lr,h.ne⟩
theorem Cn {n:Nat} {n2:Bool} {wx wy w':World} {hq hr:Nat} {bq:Bool} {A:Option Addr} {k c:Nat} {br:Bool} {A':Option Addr} {k' c' B:Nat} (hb:Below B wy w') (h:qW n n2 wx hq hr bq A k c br A' k' c') (e:wy.heap=wx.heap) (hB:wx.heap.size<=B):qW n n2 w' hq hr bq A k c br A' k' c':=(h.heap e).below hb (by rw[e];exact hB)
theorem Ou {w:World} {g:Nat} {u v a b:Value} (h0:w.cell? ⟨g,0,none⟩=some a) (h1:w.cell? ⟨g,1,none⟩=some b):((w.setCell ⟨g,0,none⟩ u).setCell ⟨g,1,none⟩ v).cell? ⟨g,0,none⟩=some u/\((w.setCell ⟨g,0,none⟩ u).setCell ⟨g,1,none⟩ v).cell? ⟨g,1,none⟩=some v:=by
 constructor
 ·exact KR aD (World.cell?_setCell_same' _ _ _ (by rw[h0];rfl))
 ·exact World.cell?_setCell_same' _ _ _ (by rw[KR aD h1];rfl)
theorem qR {w:World} {g:Nat} {u v:Value} {p:Addr} {x:Bool} (h:w.frozen? p=x):((w.setCell ⟨g,0,none⟩ u).setCell ⟨g,1,none⟩ v).frozen? p=x:=by simp only[World.frozen?_setCell];exact h
theorem qW.atS {n:Nat} {n2:Bool} {wx:World} {hq hr:Nat} {bq:Bool} {A:Option Addr} {k c:Nat} {br:Bool} {A':Option Addr} {k' c':Nat} (h:qW n n2 wx hq hr bq A k c br A' k' c') (b3:Bool) (A3:Option Addr) (k3 c3:Nat) :
  qW n n2 ((wx.setCell ⟨hr,0,none⟩ (.bool b3)).setCell ⟨hr,1,none⟩ (.slice A3 k3 c3)) hq hr bq A k c b3 A3 k3 c3:=by
 have l1:=h.lq;have l2:=h.lr;exact⟨dR h.ne h.x0,dR h.ne h.x1,(Ou h.x2 h.x3).1,(Ou h.x2 h.x3).2,qR h.x4,qR h.x5,qR h.x6,qR h.x7,dR aD h.p1,dR aD h.p2,dR aD h.p3,qR h.p4,qR h.p5,dR aD h.p6,dR aD h.p7,qR h.p8,qR h.p9,by simpa using h.gq,by simpa using h.gr,by simpa using h.gl,l1,l2,h.ne⟩
theorem qW.atT {n:Nat} {n2:Bool} {wx:World} {hq hr:Nat} {bq:Bool} {A:Option Addr} {k c:Nat} {br:Bool} {A':Option Addr} {k' c':Nat} (h:qW n n2 wx hq hr bq A k c br A' k' c') (b3:Bool) (A3:Option Addr) (k3 c3:Nat) :
  qW n n2 ((wx.setCell ⟨hq,0,none⟩ (.bool b3)).setCell ⟨hq,1,none⟩ (.slice A3 k3 c3)) hq hr b3 A3 k3 c3 br A' k' c':=by
 have l1:=h.lq;have l2:=h.lr;have l3:¬ hr=hq:=fun e=>h.ne e.symm;exact⟨(Ou h.x0 h.x1).1,(Ou h.x0 h.x1).2,dR l3 h.x2,dR l3 h.x3,qR h.x4,qR h.x5,qR h.x6,qR h.x7,dR aD h.p1,dR aD h.p2,dR aD h.p3,qR h.p4,qR h.p5,dR aD h.p6,dR aD h.p7,qR h.p8,qR h.p9,by simpa using h.gq,by simpa using h.gr,by simpa using h.gl,l1,l2,h.ne⟩
structure XN (w:World) (n2:Bool) (wx:World) (hq hr:Nat) (VQ VR:Int) (bq:Bool) (A:Option Addr) (q:List Int) (c:Nat) (br:Bool) (A':Option Addr) (r:List Int) (c':Nat):Prop where
 cs:qW w.heap.size n2 wx hq hr bq A q.length c br A' r.length c'
 rq:RL wx A q
 rr:RL wx A' r
 hlq:aH q
 hlr:aH r
 lq:q.length<=4000
 lr:r.length<=4000
 cq:q.length<=c
 cr:r.length<=c'
 vq:bF bq (lv q)=VQ
 vr:bF br (lv r)=VR
 eM:Below w.heap.size w wx
theorem adi (w:World) (x:Int):RL (w.alloc (.cells #[.int .u64 x] 122)) (some ⟨w.heap.size,0,none⟩) [x]:=by
 refine⟨by simp,fun _=>⟨_,rfl,fun j hj=>?_⟩⟩;have:j=0:=by simp at hj;omega
 subst this;simp[Addr.add,go_sem,lg]
theorem alz {x:Int} (h:0<=x/\x<B):aH [x]:=by
 intro j;cases j with
 | zero=>exact h
 | succ j=>exact⟨by simp[lg],by simp[lg,B]⟩
theorem apd (x:Int):lv [x]=x:=by simp[lv,aQ,lg]
theorem je {B:Nat} {w w1:World} {A:Option Addr} {l:List Int} (ho:Below B w w1) (h:RL w A l) (hB:w.heap.size<=B):RL w1 A l:=h.below ho hB
theorem OQ {v:Int} (h:(v.natAbs:Int)<=256^15000):Fits v:=by
 have h3:=ug (show 15001<=8*4000 by omega);have h4:=Ys 15000;have h5:=Yp 15000;refine⟨?_⟩;rw[V1];generalize (256:Int)^(8*4000)=u at *;generalize (256:Int)^(15000+1)=u at *;generalize (256:Int)^15000=u at *;omega
theorem aa2 {r:List Int} (ht:Tr r) (hl:aH r) (h:Fits (lv r)):r.length<=4000:=by
 have h1:=h.out;have h2:=(dF hl).1;apply iu ht hl;generalize B^4000=u at *;omega
theorem akT {x y:Int} (hx:0<=x) (h:x<256^15000) (hy:0<y):Fits (x / y):=by
 apply OQ;have h1:=Int.ediv_nonneg hx (Int.le_of_lt hy);have h2:=Int.ediv_le_self y hx;generalize (256:Int)^15000=u at *;omega
theorem akU {x y:Int} (hx:0<=x) (h:y<256^15000) (hy:0<y):Fits (x%y):=by
 apply OQ;have h1:=Int.emod_nonneg x (Int.ne_of_gt hy);have h2:=Int.emod_lt_of_pos x hy;generalize (256:Int)^15000=u at *;omega
theorem ajm {n2:Bool} {s1 s2:ByteArray} (h:nv s2<256^15000) (hy:0<nv s2):Fits (ival true s1%ival n2 s2):=by
 apply OQ;have e:ival true s1%ival n2 s2=ival true s1%nv s2:=by cases n2 <;> simp[ival,bF,Int.emod_neg]
 rw[e];have h1:=Int.emod_nonneg (ival true s1) (Int.ne_of_gt hy);have h2:=Int.emod_lt_of_pos (ival true s1) hy;generalize (256:Int)^15000=u at *;omega
theorem ajn {n2:Bool} {s1 s2:ByteArray} (hx:0<=nv s1) (h:nv s1<256^15000) (hy:0<nv s2):Fits (ival true s1 / ival n2 s2):=by
 apply OQ;have e:(ival true s1 / ival n2 s2).natAbs=(-nv s1 / nv s2).natAbs:=by cases n2 <;> simp[ival,bF,Int.ediv_neg]
 rw[e];have h1 : -nv s1 <= -nv s1 / nv s2:=by
  rw[Int.le_ediv_iff_mul_le hy];have:nv s1*1<=nv s1*nv s2:=Int.mul_le_mul_of_nonneg_left aD hx;rw[Int.neg_mul];omega
 have h2 : -nv s1 / nv s2<=0:=Int.ediv_nonpos_of_nonpos_of_neg aD aD;generalize (256:Int)^15000=u at *;omega
theorem US {r:List Int} (ht:Tr r) (hz:lv r=0) (hl:aH r):r.length=0:=by
 have:=iu ht hl (k:=0) (by rw[hz];decide);omega
theorem ad9 (n2:Bool) {x y:Int} (hx:0<=x) (hy:0<y):bF (!false==n2) (x / y)=bF false x / bF n2 y/\bF false (x%y)=bF false x%bF n2 y:=by
 cases n2 <;> simp[bF,Int.ediv_neg,Int.emod_neg]
theorem ad_ (n2:Bool) {x y:Int} (hx:0<=x) (hy:0<y) (hr:x%y=0):bF (!true==n2) (x / y)=bF true x / bF n2 y/\bF true (x%y)=bF true x%bF n2 y:=by
 have h1:(-x) / y = -(x / y)/\(-x)%y=0:=by
  have:=Int.mul_ediv_add_emod x y;refine(Int.ediv_emod_unique hy).2 ⟨?_,by omega,hy⟩;rw[Int.mul_neg];omega
 cases n2 <;> simp[bF,Int.ediv_neg,Int.emod_neg,h1.1,h1.2,hr]
theorem aea (n2:Bool) {x y:Int} (hx:0<=x) (hy:0<y) (hr:0<x%y):bF (!true==n2) (x / y)+bF (!n2) 1=bF true x / bF n2 y/\bF true (x%y)+bF false y=bF true x%bF n2 y:=by
 have h1:(-x) / y = -(x / y)-1/\(-x)%y=y-x%y:=by
  have:=Int.mul_ediv_add_emod x y;have h2:=Int.emod_lt_of_pos x hy;refine(Int.ediv_emod_unique hy).2 ⟨?_,by omega,by omega⟩;rw[Int.mul_sub,Int.mul_neg];omega
 cases n2 <;> simp[bF,Int.ediv_neg,Int.emod_neg,h1.1,h1.2] <;> omega
theorem ape (n1:Bool) (s1:ByteArray) (n2:Bool) (s2:ByteArray) (h1:s1.size<=15000) (h2:s2.size<=15000) (w:World) :
  Calls Tryz.prog 137 #[.agg #[.bool n1,.string s1],.agg #[.bool n2,.string s2]] w (ago n1 s1 n2 s2 w):=by
 obtain⟨w4,hw4⟩:∃ w4,w4=((((w.alloc (.cells #[.bool n1,.string s1] 38)).alloc (.cells #[.bool n2,.string s2] 38)).alloc (.cells #[.bool false,.string ⟨#[]⟩] 38)).alloc (.cells #[.bool false,.string ⟨#[]⟩] 38)).alloc (.cells #[.bool n1,.string s1,.bool n2,.string s2] 38):=⟨_,rfl⟩
 have hb4:Below w.heap.size w w4:=by rw[hw4];exact(((((Below.refl _ _).alloc (Nat.le_refl _) _).alloc (by simp;try omega) _).alloc (by simp;try omega) _).alloc (by simp;try omega) _).alloc (by simp;try omega) _
 have d0:w4.cell? ⟨w.heap.size+4,0,none⟩=some (.bool n1):=by rw[hw4];simp[go_sem]
 have d1:w4.cell? ⟨w.heap.size+4,1,none⟩=some (.string s1):=by rw[hw4];simp[go_sem]
 have d2:w4.cell? ⟨w.heap.size+4,2,none⟩=some (.bool n2):=by rw[hw4];simp[go_sem]
 have d3:w4.cell? ⟨w.heap.size+4,3,none⟩=some (.string s2):=by rw[hw4];simp[go_sem]
 have u0:w4.cell? ⟨w.heap.size,0,none⟩=some (.bool n1):=by rw[hw4];simp[go_sem]
 have u1:w4.cell? ⟨w.heap.size+1,0,none⟩=some (.bool n2):=by rw[hw4];simp[go_sem]
 have u2:w4.cell? ⟨w.heap.size+2,0,none⟩=some (.bool false):=by rw[hw4];simp[go_sem]
 have u3:w4.cell? ⟨w.heap.size+2,1,none⟩=some (.string ⟨#[]⟩):=by rw[hw4];simp[go_sem]
 have u4:w4.frozen? ⟨w.heap.size+2,0,none⟩=false:=by rw[hw4];simp[go_sem]
 have u5:w4.frozen? ⟨w.heap.size+2,1,none⟩=false:=by rw[hw4];simp[go_sem]
 have u6:w4.cell? ⟨w.heap.size+3,0,none⟩=some (.bool false):=by rw[hw4];simp[go_sem]
 have u7:w4.cell? ⟨w.heap.size+3,1,none⟩=some (.string ⟨#[]⟩):=by rw[hw4];simp[go_sem]
 have u8:w4.frozen? ⟨w.heap.size+3,0,none⟩=false:=by rw[hw4];simp[go_sem]
 have u9:w4.frozen? ⟨w.heap.size+3,1,none⟩=false:=by rw[hw4];simp[go_sem]
 have hsz:w4.heap.size=w.heap.size+5:=by rw[hw4];simp
 have hkk:∀ (w':World) (h:Below w4.heap.size w4 w'),w'.cell? ⟨w.heap.size,0,none⟩=some (.bool n1)/\w'.cell? ⟨w.heap.size+1,0,none⟩=some (.bool n2)/\w'.cell? ⟨w.heap.size+2,0,none⟩=some (.bool false)/\w'.cell? ⟨w.heap.size+2,1,none⟩=some (.string ⟨#[]⟩)/\w'.frozen? ⟨w.heap.size+2,0,none⟩=false/\w'.frozen? ⟨w.heap.size+2,1,none⟩=false/\w'.cell? ⟨w.heap.size+3,0,none⟩=some (.bool false)/\w'.cell? ⟨w.heap.size+3,1,none⟩=some (.string ⟨#[]⟩)/\w'.frozen? ⟨w.heap.size+3,0,none⟩=false/\w'.frozen? ⟨w.heap.size+3,1,none⟩=false :=
  fun w' h=>⟨(h.cell (by simp[hsz];try omega)).trans u0,(h.cell (by simp[hsz];try omega)).trans u1,(h.cell (by simp[hsz];try omega)).trans u2,(h.cell (by simp[hsz];try omega)).trans u3,(h.frozen (by simp[hsz];try omega)).trans u4,(h.frozen (by simp[hsz];try omega)).trans u5,(h.cell (by simp[hsz];try omega)).trans u6,(h.cell (by simp[hsz];try omega)).trans u7,(h.frozen (by simp[hsz];try omega)).trans u8,(h.frozen (by simp[hsz];try omega)).trans u9⟩
 have HW:=Lib.hid hw4;have HS:=Lib.hid hb4;have ew:=Lib.hid hsz;have HK:=Lib.hid hkk;unfold ago;by_cases hb:iz n1 s1 n2 s2=0
 ·obtain⟨o1,o2⟩:=Cr.1 hb
  rw[hb];have HC:=Lib.hid (KQ n1 s1 n2 s2 _ 2 w4 d0 d1 d2 d3 o1 o2);clear d0 d1 d2 d3 u0 u1 u2 u3 u4 u5 u6 u7 u8 u9 hsz hkk hb4 hw4 hb o1 o2;go_enter Tryz.func137,Tryz.ntmps137;go_wp2_with fail
  rw[<- HW.out];refine(HC.out).mono ?_;rintro e w' ⟨g,c,g1,k1,r1,g2,k2,r2,rfl,hg,hc,N1,N2,hbr⟩;have c0:=N1.c0;have c1:=N1.c1;have c2:=N2.c0;have c3:=N2.c1;obtain⟨e0,e1,e2,e3,e4,e5,e6,e7,e8,e9⟩:=HK.out _ hbr;have hg2:g<w'.heap.size:=World.block_lt_of_cell? w' _ c0;have HR:=Lib.hid (HS.out.trans (hbr.mono (by rw[ew.out];omega)));have HGN:=Lib.hid (show w.heap.size+3<g by have:=ew.out;omega);have HL:=Lib.hid (show w.heap.size+3<w'.heap.size by have:=hbr.size;rw[ew.out]at this;omega);by_cases hz:nv s2=0
  ·have hsc:=fun (w5:World) (h5:w5.heap=w'.heap)=>div_zero (some ⟨g1,0,none⟩) (some ⟨g2,0,none⟩) k1 k2 k1 k2 r1 r2 N1.len N2.len N1.le N2.le (Nat.le_refl _) (Nat.le_refl _) w5 (N1.row.heap h5) (N2.row.heap h5) N2.bL (by rw[N2.val];exact hz)
   have HC:=Lib.hid hsc;have HZ:=Lib.hid hz;clear hsc hg hbr N1 N2 hz;go_wp2
   go_region_held3 (fun w'=>w'.cell? ⟨g,1,none⟩=some (.slice (some ⟨g1,0,none⟩) k1 k1)/\w'.cell? ⟨g,3,none⟩=some (.slice (some ⟨g2,0,none⟩) k2 k2)) (first|go_keep|exact⟨z1,z3⟩) (first|(go_at_call 118;refine(HC.out _ (by rfl)).mono ?_;rintro e w2 ⟨rfl,hbr⟩;have z1:=(hbr.cell (p:=⟨g,1,none⟩) hg2).trans c1;have z3:=(hbr.cell (p:=⟨g,3,none⟩) hg2).trans c3;have p0:=(hbr.cell (p:=⟨w.heap.size,0,none⟩) (Nat.lt_of_le_of_lt (Nat.add_le_add_left (by decide:0<=3) w.heap.size) HL.out)).trans e0;have p1:=(hbr.cell (p:=⟨w.heap.size+1,0,none⟩) (Nat.lt_of_le_of_lt (Nat.add_le_add_left (by decide:1<=3) w.heap.size) HL.out)).trans e1;have p2:=(hbr.cell (p:=⟨w.heap.size+2,0,none⟩) (Nat.lt_of_le_of_lt (Nat.add_le_add_left (by decide:2<=3) w.heap.size) HL.out)).trans e2;have p3:=(hbr.cell (p:=⟨w.heap.size+2,1,none⟩) (Nat.lt_of_le_of_lt (Nat.add_le_add_left (by decide:2<=3) w.heap.size) HL.out)).trans e3;have p4:=(hbr.frozen (p:=⟨w.heap.size+2,0,none⟩) (Nat.lt_of_le_of_lt (Nat.add_le_add_left (by decide:2<=3) w.heap.size) HL.out)).trans e4;have p5:=(hbr.frozen (p:=⟨w.heap.size+2,1,none⟩) (Nat.lt_of_le_of_lt (Nat.add_le_add_left (by decide:2<=3) w.heap.size) HL.out)).trans e5;have p6:=(hbr.cell (p:=⟨w.heap.size+3,0,none⟩) (Nat.lt_of_le_of_lt (Nat.add_le_add_left (by decide:3<=3) w.heap.size) HL.out)).trans e6;have p7:=(hbr.cell (p:=⟨w.heap.size+3,1,none⟩) (Nat.lt_of_le_of_lt (Nat.add_le_add_left (by decide:3<=3) w.heap.size) HL.out)).trans e7;have p8:=(hbr.frozen (p:=⟨w.heap.size+3,0,none⟩) (Nat.lt_of_le_of_lt (Nat.add_le_add_left (by decide:3<=3) w.heap.size) HL.out)).trans e8;have p9:=(hbr.frozen (p:=⟨w.heap.size+3,1,none⟩) (Nat.lt_of_le_of_lt (Nat.add_le_add_left (by decide:3<=3) w.heap.size) HL.out)).trans e9;have cZ:=fq HR.out hbr HR.out.size rfl rfl rfl rfl;have gX:=Nat.lt_of_lt_of_le HL.out hbr.size;clear hbr))
   clear c0 c1 c2 c3 e0 e1 e2 e3 e4 e5 e6 e7 e8 e9 z1 z3;go_wp2
   refine bodyPost_ret (by simp[results,Tryz.results137,go_sem,p2,p3,p6,p7];try rfl) rfl ?_;exact⟨fun h=>absurd rfl h,fun _ _=>rfl,fun _ h=>absurd HZ.out h,((((cZ.setCell (by simp;try omega) _).setCell (by simp;try omega) _).setCell (by simp;try omega) _).setCell (by simp;try omega) _)⟩
  ·have hsc:=fun (w5:World) (h5:w5.heap=w'.heap)=>ad8 (some ⟨g1,0,none⟩) (some ⟨g2,0,none⟩) k1 k2 k1 k2 r1 r2 N1.len N2.len N1.le N2.le (Nat.le_refl _) (Nat.le_refl _) w5 (N1.row.heap h5) (N2.row.heap h5) N1.bL N2.bL (by rw[N2.val];exact hz)
   rw[N1.val,N2.val]at hsc
   have HC:=Lib.hid hsc;have HZ:=Lib.hid hz;have HX:=Lib.hid (And.intro (jM s1).1 (And.intro (ou h1) (And.intro (ou h2) (show 0<nv s2 by have:=(jM s2).1;omega))));have agp:=Lib.hid (And.intro N2.row (And.intro N2.bL (And.intro N2.len (And.intro N2.le N2.val))));clear hsc hg hbr N1 N2 hz;go_wp2
   go_region_held3 (fun w'=>w'.cell? ⟨g,1,none⟩=some (.slice (some ⟨g1,0,none⟩) k1 k1)/\w'.cell? ⟨g,3,none⟩=some (.slice (some ⟨g2,0,none⟩) k2 k2)) (first|go_keep|exact⟨z1,z3⟩) (first|(go_at_call 118;refine(HC.out _ (by rfl)).mono ?_;rintro e w2 ⟨x,y,q,r,rfl,hq,hr,hlq,GN,hlr,dD,Nw,fY,hbr⟩;obtain⟨A,cc,rfl,hqc,ju⟩:=hq;obtain⟨A',BI,rfl,hrc,hrl⟩:=hr;have z1:=(hbr.cell (p:=⟨g,1,none⟩) hg2).trans c1;have z3:=(hbr.cell (p:=⟨g,3,none⟩) hg2).trans c3;have pF:=je hbr agp.out.1 (Nat.le_refl _);have p0:=(hbr.cell (p:=⟨w.heap.size,0,none⟩) (Nat.lt_of_le_of_lt (Nat.add_le_add_left (by decide:0<=3) w.heap.size) HL.out)).trans e0;have p1:=(hbr.cell (p:=⟨w.heap.size+1,0,none⟩) (Nat.lt_of_le_of_lt (Nat.add_le_add_left (by decide:1<=3) w.heap.size) HL.out)).trans e1;have p2:=(hbr.cell (p:=⟨w.heap.size+2,0,none⟩) (Nat.lt_of_le_of_lt (Nat.add_le_add_left (by decide:2<=3) w.heap.size) HL.out)).trans e2;have p3:=(hbr.cell (p:=⟨w.heap.size+2,1,none⟩) (Nat.lt_of_le_of_lt (Nat.add_le_add_left (by decide:2<=3) w.heap.size) HL.out)).trans e3;have p4:=(hbr.frozen (p:=⟨w.heap.size+2,0,none⟩) (Nat.lt_of_le_of_lt (Nat.add_le_add_left (by decide:2<=3) w.heap.size) HL.out)).trans e4;have p5:=(hbr.frozen (p:=⟨w.heap.size+2,1,none⟩) (Nat.lt_of_le_of_lt (Nat.add_le_add_left (by decide:2<=3) w.heap.size) HL.out)).trans e5;have p6:=(hbr.cell (p:=⟨w.heap.size+3,0,none⟩) (Nat.lt_of_le_of_lt (Nat.add_le_add_left (by decide:3<=3) w.heap.size) HL.out)).trans e6;have p7:=(hbr.cell (p:=⟨w.heap.size+3,1,none⟩) (Nat.lt_of_le_of_lt (Nat.add_le_add_left (by decide:3<=3) w.heap.size) HL.out)).trans e7;have p8:=(hbr.frozen (p:=⟨w.heap.size+3,0,none⟩) (Nat.lt_of_le_of_lt (Nat.add_le_add_left (by decide:3<=3) w.heap.size) HL.out)).trans e8;have p9:=(hbr.frozen (p:=⟨w.heap.size+3,1,none⟩) (Nat.lt_of_le_of_lt (Nat.add_le_add_left (by decide:3<=3) w.heap.size) HL.out)).trans e9;have cZ:=fq HR.out hbr HR.out.size rfl rfl rfl rfl;have gX:=Nat.lt_of_lt_of_le HL.out hbr.size;have hg3:=Nat.lt_of_lt_of_le hg2 hbr.size;clear hbr))
   clear c0 c1 c2 c3 e0 e1 e2 e3 e4 e5 e6 e7 e8 e9;have l0:w.heap.size<w2.heap.size:=by omega
   have l1:w.heap.size+1<w2.heap.size:=by omega
   have l2:w.heap.size+2<w2.heap.size:=by omega
   obtain⟨bq,hbq⟩:∃ bq,(!n1==n2)=bq:=⟨_,rfl⟩
   go_upto_region 7 with fail
   go_cut [11,12] (fun a b wx=>∃ hq hr:Nat,a = .pointer (some ⟨hq,0,none⟩)/\b = .pointer (some ⟨hr,0,none⟩)/\XM w2 wx hq hr bq n1 A q.length cc A' r.length BI)
   case first =>
    go_region_held3 (fun w'=>w'.cell? ⟨w.heap.size,0,none⟩=some (.bool n1)/\w'.cell? ⟨w.heap.size+1,0,none⟩=some (.bool n2)) (first|go_keep|exact⟨p0,p1⟩|exact⟨by simp[go_sem,p0,p1,l0,l1],by simp[go_sem,p0,p1,l0,l1]⟩) (first|fail)
    ·go_wp2;go_meet;exact⟨_,_,rfl,rfl,apb _ _ _ _ _ _ _ _ _⟩
    ·go_wp2;go_meet;exact⟨_,_,rfl,rfl,apc _ _ _ _ _ _ _ _ _⟩
   case rest =>
    obtain⟨hq,hr,rfl,rfl,T6⟩:=hcut;have bb:=T6.eM;have l3:=T6.lq;have l4:=T6.lr;have l5:=bb.size;have CS:qW w.heap.size n2 wc hq hr bq A q.length cc n1 A' r.length BI:=⟨T6.x0,T6.x1,T6.x2,T6.x3,T6.x4,T6.x5,T6.x6,T6.x7,(bb.cell (by simp;omega)).trans p1,(bb.cell (by simp;omega)).trans p2,(bb.cell (by simp;omega)).trans p3,(bb.frozen (by simp;omega)).trans p4,(bb.frozen (by simp;omega)).trans p5,(bb.cell (by simp;omega)).trans p6,(bb.cell (by simp;omega)).trans p7,(bb.frozen (by simp;omega)).trans p8,(bb.frozen (by simp;omega)).trans p9,T6.gq,T6.gr,by omega,by omega,by omega,T6.ne⟩
    have hgg:w.heap.size+3<g:=HGN.out;have z3w:=(bb.cell (p:=⟨g,3,none⟩) (by simp;omega)).trans z3;have p0w:=(bb.cell (p:=⟨w.heap.size,0,none⟩) (by simp;omega)).trans p0;have pF:=Lib.hid (And.intro (je bb pF (Nat.le_refl _)) agp.out.2);have lq:q.length<=4000:=aa2 GN hlq (by rw[Nw];exact akT HX.out.1 HX.out.2.1 HX.out.2.2.2);have lr:r.length<=4000:=aa2 dD hlr (by rw[fY];exact akU HX.out.1 HX.out.2.2.1 HX.out.2.2.2);have HQ:=Lib.hid (je bb ju (Nat.le_refl _));have Zf:=Lib.hid (je bb hrl (Nat.le_refl _));have uE:=Lib.hid (cZ.trans (bb.mono cZ.size));have pG:=Lib.hid CS;clear z1 z3 bb ju hrl cZ gX l0 l1 l2 l3 l4 l5 hg2 hg3 hgg T6 CS p0 p1 p2 p3 p4 p5 p6 p7 p8 p9;have HE:=Lib.hid (And.intro Nw (And.intro fY (And.intro hbq (And.intro GN dD))));clear Nw fY hbq;cases n1 with
    | false =>
     have HF:=Lib.hid (show XN w n2 wc hq hr (ival false s1 / ival n2 s2) (ival false s1%ival n2 s2) bq A q cc false A' r BI from ⟨pG.out,HQ.out,Zf.out,hlq,hlr,lq,lr,hqc,hrc,by rw[HE.out.1,<- HE.out.2.2.1];exact(ad9 n2 HX.out.1 HX.out.2.2.2).1,by rw[HE.out.2.1];exact(ad9 n2 HX.out.1 HX.out.2.2.2).2,uE.out⟩);clear hlq hlr lq lr hqc hrc GN dD;go_wp2
     have gy:¬ hq=w.heap.size+1+1:=by have:=HF.out.cs.lq;omega
     have iV:¬ hr=w.heap.size+1+1:=by have:=HF.out.cs.lr;omega
     have n3:¬ hq=w.heap.size+1+1+1:=by have:=HF.out.cs.lq;omega
     have n4:¬ hr=w.heap.size+1+1+1:=by have:=HF.out.cs.lr;omega
     have m23:¬ w.heap.size+3=w.heap.size+1+1:=by omega
     have x0:=HF.out.cs.x0;have x1:=HF.out.cs.x1;have x2:=HF.out.cs.x2;have x3:=HF.out.cs.x3;go_region_held3 (fun w'=>w'.cell? ⟨hq,0,none⟩=some (.bool bq)/\w'.cell? ⟨hq,1,none⟩=some (.slice A q.length cc)/\w'.cell? ⟨hr,0,none⟩=some (.bool false)/\w'.cell? ⟨hr,1,none⟩=some (.slice A' r.length BI)) (first|go_keep|exact⟨dR gy cD.out.x0,dR gy cD.out.x1,dR iV cD.out.x2,dR iV cD.out.x3⟩|exact⟨dR n3 (dR gy cD.out.x0),dR n3 (dR gy cD.out.x1),dR n4 (dR iV cD.out.x2),dR n4 (dR iV cD.out.x3)⟩) (first|(go_at_call 119;have Nx:=oN;clear Nx;refine(yS false A' _ BI r rfl HF.out.lr HF.out.cr _ (by exact Ny.out) HF.out.hlr).mono ?_;rintro e w8 ⟨rfl,bS⟩;have cD:=Lib.hid (Cn bS oN.out rfl (Nat.le_refl _));clear z0 z1 z2 z3;have y0:=cD.out.x0;have y1:=cD.out.x1;have y2:=cD.out.x2;have y3:=cD.out.x3;have t2:=cD.out.p2;have t3:=cD.out.p3;have t4:=cD.out.p4;have t5:=cD.out.p5;have t6:=cD.out.p6;have t7:=cD.out.p7;have t8:=cD.out.p8;have t9:=cD.out.p9;have tE:=Lib.hid (fq kS.out bS kS.out.size rfl rfl rfl rfl);have t10:=(dR (u := .bool (decide (bF bq (lv q)<0))) (v := .string (eF (lv q))) m23 t6);have t11:=(dR (u := .bool (decide (bF bq (lv q)<0))) (v := .string (eF (lv q))) m23 t7);clear bS)|(go_at_call 119;refine(yS bq A _ cc q rfl HF.out.lq HF.out.cq _ (by exact HF.out.rq) HF.out.hlq).mono ?_;rintro e w7 ⟨rfl,bS⟩;have oN:=Lib.hid (Cn bS HF.out.cs rfl (Nat.le_refl _));have z0:=oN.out.x0;have z1:=oN.out.x1;have z2:=oN.out.x2;have z3:=oN.out.x3;have Ny:=Lib.hid (je bS HF.out.rr (Nat.le_refl _));have kS:=Lib.hid (fq HF.out.eM bS HF.out.eM.size rfl rfl rfl rfl);clear bS))
     go_wp2
     refine bodyPost_ret (by simp[results,Tryz.results137,go_sem,t2,t3,t6,t7];try rfl) rfl ?_;exact⟨fun h=>absurd rfl h,fun _ h=>absurd h HZ.out,fun _ _=>by rw[<- ID HF.out.hlq HF.out.vq,<- ID HF.out.hlr HF.out.vr],((((tE.out.setCell (by simp;try omega) _).setCell (by simp;try omega) _).setCell (by simp;try omega) _).setCell (by simp;try omega) _)⟩
    | true =>
     go_wp2
     ·have hT:0<r.length:=by omega
      have hrp:0<nv s1%nv s2:=by
       rw[<- HE.out.2.1];have h1:=(dF hlr).1;have h2:lv r≠0:=fun h=>by have:=US dD h hlr;omega
       omega
      have HT:=Lib.hid hrp;clear hT hrp;have x2:=pG.out.x2;have x3:=pG.out.x3;go_still_tail 6,(by kernel_rfl)
      change wpList _ _ _ _ _ wc.drew;go_wp2_with fail
      refine(QB true false A' (some ⟨g2,0,none⟩) r.length k2 BI k2 r r2 rfl pF.out.2.2.1 lr pF.out.2.2.2.1 hrc (Nat.le_refl _) _ (by exact Zf.out) (by exact pF.out.1) hlr pF.out.2.1).mono ?_;clear x2 x3;rintro e w7 ⟨b3,x,r3,rfl,hx,gX,qJ,hv3,mM⟩;obtain⟨A3,c3,rfl,hc3,agq⟩:=hx;have Aa:=Cn mM pG.out rfl (Nat.le_refl _);have Zg:=Aa.atS b3 A3 r3.length c3;have Zh:=(je mM HQ.out (Nat.le_refl _)).pair Aa.x2 Aa.x3 (.bool b3) (.slice A3 r3.length c3);have Zi:=agq.pair Aa.x2 Aa.x3 (.bool b3) (.slice A3 r3.length c3);have tE:=((fq uE.out mM uE.out.size rfl rfl rfl rfl).setCell (p:=⟨hr,0,none⟩) (by have:=pG.out.lr;simp;omega) (.bool b3)).setCell (p:=⟨hr,1,none⟩) (by have:=pG.out.lr;simp;omega) (.slice A3 r3.length c3);have e0:=Aa.x2;have e1:=Aa.x3;have e2:=Aa.x6;have e3:=Aa.x7;obtain⟨w8,Zj⟩:∃ w8,w8=(w7.setCell ⟨hr,0,none⟩ (.bool b3)).setCell ⟨hr,1,none⟩ (.slice A3 r3.length c3):=⟨_,rfl⟩
      rw[<- Zj]at Zg Zh Zi tE
      have H8:=Lib.hid Zj;have cD:=Lib.hid Zg;have HQ8:=Lib.hid Zh;have HR8:=Lib.hid Zi;have agr:=Lib.hid tE;have vG:=Lib.hid (And.intro hv3 (And.intro gX (And.intro qJ hc3)));clear Zj Aa Zg Zh Zi tE agq hv3 gX qJ hc3 mM;go_upto_region 10 with fail
      rw[<- H8.out];clear e0 e1 e2 e3;have e0:=cD.out.x0;have e1:=cD.out.x1;have e2:=cD.out.p1;go_wp2_with fail
      have DR:Below w8.heap.size w8 (w8.alloc (.cells #[.int .u64 1] 122)):=(Below.refl _ _).alloc (Nat.le_refl _) _;have CS9:=cD.out.below DR (Nat.le_refl _);refine(QB bq (!n2) A (some ⟨w8.heap.size,0,none⟩) q.length 1 cc 1 q [1] rfl rfl lq aD hqc (Nat.le_refl _) _ (by exact je DR HQ8.out (Nat.le_refl _)) (by exact adi w8 1) hlq (alz (by decide))).mono ?_;rintro e gI ⟨b4,x,q4,rfl,hx,hl4,Ab,hv4,zu⟩;obtain⟨A4,c4,rfl,tB,ags⟩:=hx;have zv:=Cn zu CS9 rfl (Nat.le_refl _);have XO:=zv.atT b4 A4 q4.length c4;have XP:=(je zu (je DR HR8.out (Nat.le_refl _)) (Nat.le_refl _)).pair zv.x0 zv.x1 (.bool b4) (.slice A4 q4.length c4);have XQ:=ags.pair zv.x0 zv.x1 (.bool b4) (.slice A4 q4.length c4);have GO:=agr.out.trans (DR.mono agr.out.size);have xH:=((fq GO zu GO.size rfl rfl rfl rfl).setCell (p:=⟨hq,0,none⟩) (by have:=pG.out.lq;simp;omega) (.bool b4)).setCell (p:=⟨hq,1,none⟩) (by have:=pG.out.lq;simp;omega) (.slice A4 q4.length c4);clear e0 e1 e2;have e0:=zv.x0;have e1:=zv.x1;have e2:=zv.x4;have e3:=zv.x5;have XR:bF b4 (lv q4)=ival true s1 / ival n2 s2:=by rw[hv4,HE.out.1,apd,<- HE.out.2.2.1];exact(aea n2 HX.out.1 HX.out.2.2.2 HT.out).1
      have XS:bF b3 (lv r3)=ival true s1%ival n2 s2:=by rw[vG.out.1,HE.out.2.1,pF.out.2.2.2.2];exact(aea n2 HX.out.1 HX.out.2.2.2 HT.out).2
      have lq4:q4.length<=4000:=KC hl4 Ab XR (ajn HX.out.1 HX.out.2.1 HX.out.2.2.2);have lr3:r3.length<=4000:=KC vG.out.2.1 vG.out.2.2.1 XS (ajm HX.out.2.2.1 HX.out.2.2.2);obtain⟨lV,XT⟩:∃ lV,lV=(gI.setCell ⟨hq,0,none⟩ (.bool b4)).setCell ⟨hq,1,none⟩ (.slice A4 q4.length c4):=⟨_,rfl⟩
      rw[<- XT]at XO XQ XP xH
      have HF:=Lib.hid (show XN w n2 lV hq hr (ival true s1 / ival n2 s2) (ival true s1%ival n2 s2) b4 A4 q4 c4 b3 A3 r3 c3 from ⟨XO,XQ,XP,hl4,vG.out.2.1,lq4,lr3,tB,vG.out.2.2.2,XR,XS,xH⟩);have H11:=Lib.hid XT;clear XT CS9 zv XO XQ XP GO xH ags hv4 hl4 Ab tB zu DR XR XS lq4 lr3 hlq hlr lq lr hqc hrc GN dD p0w z3w;go_upto_region 11 with fail
      rw[<- H11.out];clear e0 e1 e2 e3;have gy:¬ hq=w.heap.size+1+1:=by have:=HF.out.cs.lq;omega
      have iV:¬ hr=w.heap.size+1+1:=by have:=HF.out.cs.lr;omega
      have n3:¬ hq=w.heap.size+1+1+1:=by have:=HF.out.cs.lq;omega
      have n4:¬ hr=w.heap.size+1+1+1:=by have:=HF.out.cs.lr;omega
      have m23:¬ w.heap.size+3=w.heap.size+1+1:=by omega
      have x0:=HF.out.cs.x0;have x1:=HF.out.cs.x1;have x2:=HF.out.cs.x2;have x3:=HF.out.cs.x3;go_region_held3 (fun w'=>w'.cell? ⟨hq,0,none⟩=some (.bool b4)/\w'.cell? ⟨hq,1,none⟩=some (.slice A4 q4.length c4)/\w'.cell? ⟨hr,0,none⟩=some (.bool b3)/\w'.cell? ⟨hr,1,none⟩=some (.slice A3 r3.length c3)) (first|go_keep|exact⟨dR gy cD.out.x0,dR gy cD.out.x1,dR iV cD.out.x2,dR iV cD.out.x3⟩|exact⟨dR n3 (dR gy cD.out.x0),dR n3 (dR gy cD.out.x1),dR n4 (dR iV cD.out.x2),dR n4 (dR iV cD.out.x3)⟩) (first|(go_at_call 119;have Nx:=oN;clear Nx;refine(yS b3 A3 _ c3 r3 rfl HF.out.lr HF.out.cr _ (by exact Ny.out) HF.out.hlr).mono ?_;rintro e w8 ⟨rfl,bS⟩;have cD:=Lib.hid (Cn bS oN.out rfl (Nat.le_refl _));clear z0 z1 z2 z3;have y0:=cD.out.x0;have y1:=cD.out.x1;have y2:=cD.out.x2;have y3:=cD.out.x3;have t2:=cD.out.p2;have t3:=cD.out.p3;have t4:=cD.out.p4;have t5:=cD.out.p5;have t6:=cD.out.p6;have t7:=cD.out.p7;have t8:=cD.out.p8;have t9:=cD.out.p9;have tE:=Lib.hid (fq kS.out bS kS.out.size rfl rfl rfl rfl);have t10:=(dR (u := .bool (decide (bF b4 (lv q4)<0))) (v := .string (eF (lv q4))) m23 t6);have t11:=(dR (u := .bool (decide (bF b4 (lv q4)<0))) (v := .string (eF (lv q4))) m23 t7);clear bS)|(go_at_call 119;refine(yS b4 A4 _ c4 q4 rfl HF.out.lq HF.out.cq _ (by exact HF.out.rq) HF.out.hlq).mono ?_;rintro e w7 ⟨rfl,bS⟩;have oN:=Lib.hid (Cn bS HF.out.cs rfl (Nat.le_refl _));have z0:=oN.out.x0;have z1:=oN.out.x1;have z2:=oN.out.x2;have z3:=oN.out.x3;have Ny:=Lib.hid (je bS HF.out.rr (Nat.le_refl _));have kS:=Lib.hid (fq HF.out.eM bS HF.out.eM.size rfl rfl rfl rfl);clear bS))
      go_wp2
      refine bodyPost_ret (by simp[results,Tryz.results137,go_sem,t2,t3,t6,t7];try rfl) rfl ?_;exact⟨fun h=>absurd rfl h,fun _ h=>absurd h HZ.out,fun _ _=>by rw[<- ID HF.out.hlq HF.out.vq,<- ID HF.out.hlr HF.out.vr],((((tE.out.setCell (by simp;try omega) _).setCell (by simp;try omega) _).setCell (by simp;try omega) _).setCell (by simp;try omega) _)⟩
     ·have agt:r.length=0:=by omega
      have hz1:nv s1%nv s2=0:=by rw[<- HE.out.2.1];unfold lv;rw[agt];rfl
      have HF:=Lib.hid (show XN w n2 wc hq hr (ival true s1 / ival n2 s2) (ival true s1%ival n2 s2) bq A q cc true A' r BI from ⟨pG.out,HQ.out,Zf.out,hlq,hlr,lq,lr,hqc,hrc,by rw[HE.out.1,<- HE.out.2.2.1];exact(ad_ n2 HX.out.1 HX.out.2.2.2 hz1).1,by rw[HE.out.2.1];exact(ad_ n2 HX.out.1 HX.out.2.2.2 hz1).2,uE.out⟩);clear hlq hlr lq lr hqc hrc GN dD;clear agt hz1;have gy:¬ hq=w.heap.size+1+1:=by have:=HF.out.cs.lq;omega
      have iV:¬ hr=w.heap.size+1+1:=by have:=HF.out.cs.lr;omega
      have n3:¬ hq=w.heap.size+1+1+1:=by have:=HF.out.cs.lq;omega
      have n4:¬ hr=w.heap.size+1+1+1:=by have:=HF.out.cs.lr;omega
      have m23:¬ w.heap.size+3=w.heap.size+1+1:=by omega
      have x0:=HF.out.cs.x0;have x1:=HF.out.cs.x1;have x2:=HF.out.cs.x2;have x3:=HF.out.cs.x3;go_region_held3 (fun w'=>w'.cell? ⟨hq,0,none⟩=some (.bool bq)/\w'.cell? ⟨hq,1,none⟩=some (.slice A q.length cc)/\w'.cell? ⟨hr,0,none⟩=some (.bool true)/\w'.cell? ⟨hr,1,none⟩=some (.slice A' r.length BI)) (first|go_keep|exact⟨dR gy cD.out.x0,dR gy cD.out.x1,dR iV cD.out.x2,dR iV cD.out.x3⟩|exact⟨dR n3 (dR gy cD.out.x0),dR n3 (dR gy cD.out.x1),dR n4 (dR iV cD.out.x2),dR n4 (dR iV cD.out.x3)⟩) (first|(go_at_call 119;have Nx:=oN;clear Nx;refine(yS true A' _ BI r rfl HF.out.lr HF.out.cr _ (by exact Ny.out) HF.out.hlr).mono ?_;rintro e w8 ⟨rfl,bS⟩;have cD:=Lib.hid (Cn bS oN.out rfl (Nat.le_refl _));clear z0 z1 z2 z3;have y0:=cD.out.x0;have y1:=cD.out.x1;have y2:=cD.out.x2;have y3:=cD.out.x3;have t2:=cD.out.p2;have t3:=cD.out.p3;have t4:=cD.out.p4;have t5:=cD.out.p5;have t6:=cD.out.p6;have t7:=cD.out.p7;have t8:=cD.out.p8;have t9:=cD.out.p9;have tE:=Lib.hid (fq kS.out bS kS.out.size rfl rfl rfl rfl);have t10:=(dR (u := .bool (decide (bF bq (lv q)<0))) (v := .string (eF (lv q))) m23 t6);have t11:=(dR (u := .bool (decide (bF bq (lv q)<0))) (v := .string (eF (lv q))) m23 t7);clear bS)|(go_at_call 119;refine(yS bq A _ cc q rfl HF.out.lq HF.out.cq _ (by exact HF.out.rq) HF.out.hlq).mono ?_;rintro e w7 ⟨rfl,bS⟩;have oN:=Lib.hid (Cn bS HF.out.cs rfl (Nat.le_refl _));have z0:=oN.out.x0;have z1:=oN.out.x1;have z2:=oN.out.x2;have z3:=oN.out.x3;have Ny:=Lib.hid (je bS HF.out.rr (Nat.le_refl _));have kS:=Lib.hid (fq HF.out.eM bS HF.out.eM.size rfl rfl rfl rfl);clear bS))
      go_wp2
      refine bodyPost_ret (by simp[results,Tryz.results137,go_sem,t2,t3,t6,t7];try rfl) rfl ?_;exact⟨fun h=>absurd rfl h,fun _ h=>absurd h HZ.out,fun _ _=>by rw[<- ID HF.out.hlq HF.out.vq,<- ID HF.out.hlr HF.out.vr],((((tE.out.setCell (by simp;try omega) _).setCell (by simp;try omega) _).setCell (by simp;try omega) _).setCell (by simp;try omega) _)⟩
 ·have HC:=Lib.hid (KB n1 s1 n2 s2 _ 2 w4 d0 d1 d2 d3 hb)
  have hz1:(iz n1 s1 n2 s2==0)=false:=beq_eq_false_iff_ne.mpr hb;have hz2:(iz n1 s1 n2 s2 != 0)=true:=bne_iff_ne.mpr hb;have HN:=Lib.hid hb;clear d0 d1 d2 d3 u0 u1 u2 u3 u4 u5 u6 u7 u8 u9 hsz hkk hb4 hw4 hb h1 h2;go_enter Tryz.func137,Tryz.ntmps137;go_wp2_with fail
  rw[<- HW.out];refine(HC.out).mono ?_;rintro e w' ⟨rfl,hbr⟩;obtain⟨e0,e1,e2,e3,e4,e5,e6,e7,e8,e9⟩:=HK.out _ hbr;have HR:=Lib.hid (HS.out.trans (hbr.mono (by rw[ew.out];omega)));clear hbr;go_wp2
  refine bodyPost_ret (by simp[results,Tryz.results137,go_sem,e0,e1,e2,e3,e4,e5,e6,e7,e8,e9];try rfl) rfl ?_;exact⟨fun _=>rfl,fun h=>absurd h HN.out,fun h=>absurd h HN.out,((((HR.out.setCell (by simp;try omega) _).setCell (by simp;try omega) _).setCell (by simp;try omega) _).setCell (by simp;try omega) _)⟩
def agu (n1:Bool) (s1:ByteArray) (n2:Bool) (s2:ByteArray) (w:World) (e:Ending) (w':World):Prop :=
 (iz n1 s1 n2 s2≠0->e = .returned (.tuple #[.agg #[.bool false,.string ⟨#[]⟩],.int .i64 (iz n1 s1 n2 s2)])) /\
 (iz n1 s1 n2 s2=0->e = .returned (.tuple #[.agg #[.bool false,.string (eF ((Nat.gcd (nv s1).toNat (nv s2).toNat:Nat):Int))],.int .i64 0]))/\Below w.heap.size w w'
structure Bc (n G:Nat) (w w1:World) (A:Option Addr) (a:List Int) (c:Nat) (A':Option Addr) (b:List Int) (c':Nat):Prop where
 ra:RL w1 A a
 rb:RL w1 A' b
 la:aH a
 lb:aH b
 tb:Tr b
 na:a.length<=4000
 nb:b.length<=4000
 ca:a.length<=c
 cb:b.length<=c'
 gcd:Nat.gcd (lv a).toNat (lv b).toNat=G
 eM:Below w.heap.size w w1
 e0:w1.cell? ⟨n+2,0,none⟩=some (.bool false)
 e1:w1.cell? ⟨n+2,1,none⟩=some (.string ⟨#[]⟩)
 f0:w1.frozen? ⟨n+2,0,none⟩=false
 f1:w1.frozen? ⟨n+2,1,none⟩=false
 sz:n+2<w1.heap.size
theorem akV {x y:Int} (hx:0<=x) (hy:0<y):Nat.gcd y.toNat (x%y).toNat=Nat.gcd x.toNat y.toNat:=by
 obtain⟨a,rfl⟩:=Int.eq_ofNat_of_zero_le hx;obtain⟨b,rfl⟩:=Int.eq_ofNat_of_zero_le (Int.le_of_lt hy);rw[show((a:Int)%(b:Int))=((a%b:Nat):Int) from rfl,Int.toNat_natCast,Int.toNat_natCast,Int.toNat_natCast,Nat.gcd_comm b,<- Nat.gcd_rec,Nat.gcd_comm]
theorem Bc.dP {n G:Nat} {w w1:World} {A:Option Addr} {a:List Int} {c:Nat} {A':Option Addr} {b:List Int} {c':Nat} (h:Bc n G w w1 A a c A' b c') (k:Nat):Bc n G w (w1.drewN k) A a c A' b c' :=
 ⟨h.ra.dP _,h.rb.dP _,h.la,h.lb,h.tb,h.na,h.nb,h.ca,h.cb,h.gcd,iy h.eM _,h.e0,h.e1,h.f0,h.f1,h.sz⟩
theorem Bc.step {n G:Nat} {w w1 w2:World} {A:Option Addr} {a:List Int} {c:Nat} {A':Option Addr} {b:List Int} {c':Nat} (h:Bc n G w w1 A a c A' b c') (hb:Below w1.heap.size w1 w2) (h0:¬ b.length=0) {A2:Option Addr} {r:List Int} {c2:Nat} (hr:RL w2 A2 r) (hl:aH r) (ht:Tr r) (hc:r.length<=c2) (hv:lv r=lv a%lv b):Bc n G w w2 A' b c' A2 r c2/\(lv r).toNat<(lv b).toNat:=by
 have hp:0<lv b:=by
  have h1:=(dF h.lb).1;have h2:lv b≠0:=fun e=>h0 (US h.tb e h.lb);omega
 have h3:=Int.emod_nonneg (lv a) (Int.ne_of_gt hp);have h4:=Int.emod_lt_of_pos (lv a) hp;have hle:r.length<=b.length:=by
  apply iu ht hl;have:=(dF h.lb).2;omega
 exact⟨⟨h.rb.below hb (Nat.le_refl _),hr,h.lb,hl,ht,h.nb,by have:=h.nb;omega,h.cb,hc,by rw[hv,akV (dF h.la).1 hp];exact h.gcd,h.eM.trans (hb.mono h.eM.size),(hb.cell h.sz).trans h.e0,(hb.cell h.sz).trans h.e1,(hb.frozen h.sz).trans h.f0,(hb.frozen h.sz).trans h.f1,Nat.lt_of_lt_of_le h.sz hb.size⟩,by omega⟩
theorem apf (n1:Bool) (s1:ByteArray) (n2:Bool) (s2:ByteArray) (h1:s1.size<=15000) (h2:s2.size<=15000) (w:World) :
  Calls Tryz.prog 109 #[.agg #[.bool n1,.string s1],.agg #[.bool n2,.string s2]] w (agu n1 s1 n2 s2 w):=by
 obtain⟨w4,hw4⟩:∃ w4,w4=(((w.alloc (.cells #[.bool n1,.string s1] 38)).alloc (.cells #[.bool n2,.string s2] 38)).alloc (.cells #[.bool false,.string ⟨#[]⟩] 38)).alloc (.cells #[.bool n1,.string s1,.bool n2,.string s2] 38):=⟨_,rfl⟩
 have hb4:Below w.heap.size w w4:=by rw[hw4];exact((((Below.refl _ _).alloc (Nat.le_refl _) _).alloc (by simp;try omega) _).alloc (by simp;try omega) _).alloc (by simp;try omega) _
 have d0:w4.cell? ⟨w.heap.size+3,0,none⟩=some (.bool n1):=by rw[hw4];simp[go_sem]
 have d1:w4.cell? ⟨w.heap.size+3,1,none⟩=some (.string s1):=by rw[hw4];simp[go_sem]
 have d2:w4.cell? ⟨w.heap.size+3,2,none⟩=some (.bool n2):=by rw[hw4];simp[go_sem]
 have d3:w4.cell? ⟨w.heap.size+3,3,none⟩=some (.string s2):=by rw[hw4];simp[go_sem]
 have u0:w4.cell? ⟨w.heap.size,0,none⟩=some (.bool n1):=by rw[hw4];simp[go_sem]
 have u1:w4.cell? ⟨w.heap.size+1,0,none⟩=some (.bool n2):=by rw[hw4];simp[go_sem]
 have u2:w4.cell? ⟨w.heap.size+2,0,none⟩=some (.bool false):=by rw[hw4];simp[go_sem]
 have u3:w4.cell? ⟨w.heap.size+2,1,none⟩=some (.string ⟨#[]⟩):=by rw[hw4];simp[go_sem]
 have u4:w4.frozen? ⟨w.heap.size+2,0,none⟩=false:=by rw[hw4];simp[go_sem]
 have u5:w4.frozen? ⟨w.heap.size+2,1,none⟩=false:=by rw[hw4];simp[go_sem]
 have hsz:w4.heap.size=w.heap.size+4:=by rw[hw4];simp
 have hkk:∀ (w':World) (h:Below w4.heap.size w4 w'),w'.cell? ⟨w.heap.size,0,none⟩=some (.bool n1)/\w'.cell? ⟨w.heap.size+1,0,none⟩=some (.bool n2)/\w'.cell? ⟨w.heap.size+2,0,none⟩=some (.bool false)/\w'.cell? ⟨w.heap.size+2,1,none⟩=some (.string ⟨#[]⟩)/\w'.frozen? ⟨w.heap.size+2,0,none⟩=false/\w'.frozen? ⟨w.heap.size+2,1,none⟩=false :=
  fun w' h=>⟨(h.cell (by simp[hsz];try omega)).trans u0,(h.cell (by simp[hsz];try omega)).trans u1,(h.cell (by simp[hsz];try omega)).trans u2,(h.cell (by simp[hsz];try omega)).trans u3,(h.frozen (by simp[hsz];try omega)).trans u4,(h.frozen (by simp[hsz];try omega)).trans u5⟩
 have HW:=Lib.hid hw4;have HS:=Lib.hid hb4;have ew:=Lib.hid hsz;have HK:=Lib.hid hkk;unfold agu;by_cases hb:iz n1 s1 n2 s2=0
 ·obtain⟨o1,o2⟩:=Cr.1 hb
  rw[hb];have HC:=Lib.hid (KQ n1 s1 n2 s2 _ 2 w4 d0 d1 d2 d3 o1 o2);clear d0 d1 d2 d3 u0 u1 u2 u3 u4 u5 hsz hkk hb4 hw4 hb o1 o2 h1 h2;go_enter Tryz.func109,Tryz.ntmps109;go_wp2_with fail
  rw[<- HW.out];refine(HC.out).mono ?_;rintro e w' ⟨g,c,g1,k1,r1,g2,k2,r2,rfl,hg,hc,N1,N2,hbr⟩;have c0:=N1.c0;have c1:=N1.c1;have c2:=N2.c0;have c3:=N2.c1;obtain⟨e0,e1,e2,e3,e4,e5⟩:=HK.out _ hbr;have hg2:g<w'.heap.size:=World.block_lt_of_cell? w' _ c0;have HR:=Lib.hid (HS.out.trans (hbr.mono (by rw[ew.out];omega)));have HL:=Lib.hid (show w.heap.size+2<w'.heap.size by have:=hbr.size;rw[ew.out]at this;omega);have j5:=Lib.hid (show Bc w.heap.size (Nat.gcd (nv s1).toNat (nv s2).toNat) w w' (some ⟨g1,0,none⟩) r1 k1 (some ⟨g2,0,none⟩) r2 k2 from ⟨N1.row,N2.row,N1.bL,N2.bL,N2.tr,by rw[N1.len];exact N1.le,by rw[N2.len];exact N2.le,by rw[N1.len];exact Nat.le_refl _,by rw[N2.len];exact Nat.le_refl _,by rw[N1.val,N2.val],HR.out,e2,e3,e4,e5,HL.out⟩);have Rw:=Lib.hid (And.intro N1.len N2.len);clear hg hbr N1 N2;go_wp2
  repeat(go_quiet (fail);try go_wp2)
  rw[<- Rw.out.1,<- Rw.out.2];rw[<- Rw.out.1,<- Rw.out.2]at j5
  clear c0 c1 c2 c3 e0 e1 e2 e3 e4 e5;go_loopg [8,9] (lv r2).toNat (fun gk x y w1=>∃ A a na c A' b nb c',Hid (gk=(lv b).toNat)/\x = .slice A na c/\y = .slice A' nb c'/\Hid (a.length=na/\b.length=nb)/\Hid (Bc w.heap.size (Nat.gcd (nv s1).toNat (nv s2).toNat) w w1 A a c A' b c'))
  case atStart=>exact⟨_,_,_,_,_,_,_,_,rfl,rfl,rfl,Lib.hid ⟨rfl,rfl⟩,Lib.hid (Bc.dP j5.out _)⟩
  case round =>
   obtain⟨A,a,na,ca,A',b,nb,cb,rD,rfl,rfl,HL,HI⟩:=hrel;have HNA:=Lib.hid (show na<=4000 by have:=HI.out.na;rw[HL.out.1]at this;exact this);have Za:=Lib.hid (show nb<=4000 by have:=HI.out.nb;rw[HL.out.2]at this;exact this);have HCA:=Lib.hid (show na<=ca by have:=HI.out.ca;rw[HL.out.1]at this;exact this);have HCB:=Lib.hid (show nb<=cb by have:=HI.out.cb;rw[HL.out.2]at this;exact this);by_cases hz:nb=0
   ·have ht:decide ((0:Int)<(nb:Int))=false:=decide_eq_false aD
    have ig:(0<nb)=False:=eq_false aD;have qJ:((0:Int)<(nb:Int))=False:=eq_false aD;have hlz:lv b=0:=by unfold lv;rw[HL.out.2,hz];rfl
    have HG:=Lib.hid (show lv a=((Nat.gcd (nv s1).toNat (nv s2).toNat:Nat):Int) by have h1:=HI.out.gcd;rw[hlz]at h1;have h2:=(dF HI.out.la).1;rw[<- h1];simp;omega);clear hz hlz;go_wp2_with fail
    refine(yS false A na ca a HL.out.1 HNA.out HCA.out _ HI.out.ra HI.out.la).mono ?_;rintro e w2 ⟨rfl,bS⟩;have q0:=(bS.cell HI.out.sz).trans HI.out.e0;have q1:=(bS.cell HI.out.sz).trans HI.out.e1;have q2:=(bS.frozen HI.out.sz).trans HI.out.f0;have q3:=(bS.frozen HI.out.sz).trans HI.out.f1;have cW:=Lib.hid (HI.out.eM.trans (bS.mono HI.out.eM.size));clear bS;go_wp2
    refine bodyPost_ret (by simp[results,Tryz.results109,go_sem,q0,q1];try rfl) rfl ?_;exact⟨fun h=>absurd rfl h,fun _=>by rw[<- HG.out,show decide (bF false (lv a)<0)=false from decide_eq_false (by have:=(dF HI.out.la).1;simp[bF];omega)],(cW.out.setCell (by simp;try omega) _).setCell (by simp;try omega) _⟩
   ·have ht:decide ((0:Int)<(nb:Int))=true:=decide_eq_true aD
    have ig:(0<nb)=True:=eq_true aD;have qJ:((0:Int)<(nb:Int))=True:=eq_true aD;have HZ:=Lib.hid (show ¬ b.length=0 by rw[HL.out.2];exact hz);clear hz;go_wp2_with fail
    refine(ad8 A A' na nb ca cb a b HL.out.1 HL.out.2 HNA.out Za.out HCA.out HCB.out _ HI.out.ra HI.out.rb HI.out.la HI.out.lb (fun e=>HZ.out (US HI.out.tb e HI.out.lb))).mono ?_;rintro e w2 ⟨x,y,q,r,rfl,hq,hr,hlq,GN,hlr,dD,Nw,fY,hbr⟩;obtain⟨A1,c1,rfl,hqc,ju⟩:=hq;obtain⟨A2,c2,rfl,hrc,hrl⟩:=hr;have HN:=Lib.hid (HI.out.step hbr HZ.out hrl hlr dD hrc fY);clear hqc ju hrc hrl hlq GN hlr dD Nw fY hbr;go_wp2
    go_roundg (lv r).toNat
    case measure=>rw[rD.out];exact HN.out.2
    case rel=>exact⟨_,b,_,_,_,r,_,_,rfl,rfl,rfl,Lib.hid ⟨HL.out.2,rfl⟩,Lib.hid HN.out.1⟩
 ·have HC:=Lib.hid (KB n1 s1 n2 s2 _ 2 w4 d0 d1 d2 d3 hb)
  have hz1:(iz n1 s1 n2 s2==0)=false:=beq_eq_false_iff_ne.mpr hb;have hz2:(iz n1 s1 n2 s2 != 0)=true:=bne_iff_ne.mpr hb;have HN:=Lib.hid hb;clear d0 d1 d2 d3 u0 u1 u2 u3 u4 u5 hsz hkk hb4 hw4 hb h1 h2;go_enter Tryz.func109,Tryz.ntmps109;go_wp2_with fail
  rw[<- HW.out];refine(HC.out).mono ?_;rintro e w' ⟨rfl,hbr⟩;obtain⟨e0,e1,e2,e3,e4,e5⟩:=HK.out _ hbr;have HR:=Lib.hid (HS.out.trans (hbr.mono (by rw[ew.out];omega)));clear hbr;go_wp2
  refine bodyPost_ret (by simp[results,Tryz.results109,go_sem,e0,e1,e2,e3,e4,e5];try rfl) rfl ?_;exact⟨fun _=>rfl,fun h=>absurd h HN.out,(HR.out.setCell (by simp;try omega) _).setCell (by simp;try omega) _⟩
end Go.Proofs.YtfcjnhkkfmgmpaaGreat
