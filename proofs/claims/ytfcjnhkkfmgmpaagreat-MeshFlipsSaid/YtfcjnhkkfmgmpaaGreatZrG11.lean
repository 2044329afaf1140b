import Derived.Test.YtfcjnhkkfmgmpaaGreatZrG10
set_option linter.all false
set_option maxRecDepth 100000
set_option maxHeartbeats 8000000
namespace Go.Proofs.YtfcjnhkkfmgmpaaGreat
open Go.RowKit Num
def QuoW (n1:Bool) (s1:ByteArray) (n2:Bool) (s2:ByteArray) (w:World) (e:Ending) (w':World):Prop :=
 (bad2 n1 s1 n2 s2≠0→e = .returned (.tuple #[.agg #[.bool false,.string ⟨#[]⟩],.agg #[.bool false,.string ⟨#[]⟩],.int .i64 (bad2 n1 s1 n2 s2)])) ∧
 (bad2 n1 s1 n2 s2=0→nv s2=0→e = .returned (.tuple #[.agg #[.bool false,.string ⟨#[]⟩],.agg #[.bool false,.string ⟨#[]⟩],.int .i64 3])) ∧
 (bad2 n1 s1 n2 s2=0→nv s2≠0→e = .returned (.tuple #[putV (ival n1 s1 / ival n2 s2),putV (ival n1 s1%ival n2 s2),.int .i64 0]))∧Below w.heap.size w w'
structure Two6 (w2 w6:World) (hq hr:Nat) (bq br:Bool) (A:Option Addr) (k c:Nat) (A':Option Addr) (k' c':Nat):Prop where
 x0:w6.cell? ⟨hq,0,none⟩=some (.bool bq)
 x1:w6.cell? ⟨hq,1,none⟩=some (.slice A k c)
 x2:w6.cell? ⟨hr,0,none⟩=some (.bool br)
 x3:w6.cell? ⟨hr,1,none⟩=some (.slice A' k' c')
 x4:w6.frozen? ⟨hq,0,none⟩=false
 x5:w6.frozen? ⟨hq,1,none⟩=false
 x6:w6.frozen? ⟨hr,0,none⟩=false
 x7:w6.frozen? ⟨hr,1,none⟩=false
 bel:Below w2.heap.size w2 w6
 lq:w2.heap.size≤hq
 lr:w2.heap.size≤hr
 gq:hq<w6.heap.size
 gr:hr<w6.heap.size
 ne:¬ hq=hr
theorem two6_a (w2:World) (bq br:Bool) (A:Option Addr) (k c:Nat) (A':Option Addr) (k' c':Nat):Two6 w2 ((w2.alloc (.cells #[.bool bq,.slice A k c] 151)).alloc (.cells #[.bool br,.slice A' k' c'] 151)).drew w2.heap.size (w2.heap.size+1) bq br A k c A' k' c' :=
 ⟨by simp[go_sem],by simp[go_sem],by simp[go_sem],by simp[go_sem],by simp[go_sem],by simp[go_sem],by simp[go_sem],by simp[go_sem],(((Below.refl _ _).alloc (Nat.le_refl _) _).alloc (by simp) _).drew,by omega,by omega,by simp;try omega,by simp;try omega,by omega⟩
theorem two6_b (w2:World) (bq br:Bool) (A:Option Addr) (k c:Nat) (A':Option Addr) (k' c':Nat):Two6 w2 ((w2.alloc (.cells #[.bool br,.slice A' k' c'] 151)).alloc (.cells #[.bool bq,.slice A k c] 151)).drew (w2.heap.size+1) w2.heap.size bq br A k c A' k' c' :=
 ⟨by simp[go_sem],by simp[go_sem],by simp[go_sem],by simp[go_sem],by simp[go_sem],by simp[go_sem],by simp[go_sem],by simp[go_sem],(((Below.refl _ _).alloc (Nat.le_refl _) _).alloc (by simp) _).drew,by omega,by omega,by simp;try omega,by simp;try omega,by omega⟩
theorem set2_far {w:World} {g h i:Nat} {u v:Value} {X:Option Value} (hne:¬ g=h) (hc:w.cell? ⟨g,i,none⟩=X):((w.setCell ⟨h,0,none⟩ u).setCell ⟨h,1,none⟩ v).cell? ⟨g,i,none⟩=X :=
 (cell_far _ _ _ _ _ _ hne).trans ((cell_far _ _ _ _ _ _ hne).trans hc)
structure CellsQ (n:Nat) (n2:Bool) (wx:World) (hq hr:Nat) (bq:Bool) (A:Option Addr) (k c:Nat) (br:Bool) (A':Option Addr) (k' c':Nat):Prop where
 x0:wx.cell? ⟨hq,0,none⟩=some (.bool bq)
 x1:wx.cell? ⟨hq,1,none⟩=some (.slice A k c)
 x2:wx.cell? ⟨hr,0,none⟩=some (.bool br)
 x3:wx.cell? ⟨hr,1,none⟩=some (.slice A' k' c')
 x4:wx.frozen? ⟨hq,0,none⟩=false
 x5:wx.frozen? ⟨hq,1,none⟩=false
 x6:wx.frozen? ⟨hr,0,none⟩=false
 x7:wx.frozen? ⟨hr,1,none⟩=false
 p1:wx.cell? ⟨n+1,0,none⟩=some (.bool n2)
 p2:wx.cell? ⟨n+2,0,none⟩=some (.bool false)
 p3:wx.cell? ⟨n+2,1,none⟩=some (.string ⟨#[]⟩)
 p4:wx.frozen? ⟨n+2,0,none⟩=false
 p5:wx.frozen? ⟨n+2,1,none⟩=false
 p6:wx.cell? ⟨n+3,0,none⟩=some (.bool false)
 p7:wx.cell? ⟨n+3,1,none⟩=some (.string ⟨#[]⟩)
 p8:wx.frozen? ⟨n+3,0,none⟩=false
 p9:wx.frozen? ⟨n+3,1,none⟩=false
 gq:hq<wx.heap.size
 gr:hr<wx.heap.size
 gl:n+3<wx.heap.size
 lq:n+3<hq
 lr:n+3<hr
 ne:¬ hq=hr
theorem CellsQ.below {n:Nat} {n2:Bool} {wx w':World} {hq hr:Nat} {bq:Bool} {A:Option Addr} {k c:Nat} {br:Bool} {A':Option Addr} {k' c':Nat} (h:CellsQ n n2 wx hq hr bq A k c br A' k' c') {B:Nat} (hb:Below B wx w') (hB:wx.heap.size≤B):CellsQ n n2 w' hq hr bq A k c br A' k' c':=by
 have g1:=h.gq;have g2:=h.gr;have g3:=h.gl;have g4:=hb.size
 exact⟨(hb.cell (by simp;omega)).trans h.x0,(hb.cell (by simp;omega)).trans h.x1,(hb.cell (by simp;omega)).trans h.x2,(hb.cell (by simp;omega)).trans h.x3,(hb.frozen (by simp;omega)).trans h.x4,(hb.frozen (by simp;omega)).trans h.x5,(hb.frozen (by simp;omega)).trans h.x6,(hb.frozen (by simp;omega)).trans h.x7,
  (hb.cell (by simp;omega)).trans h.p1,(hb.cell (by simp;omega)).trans h.p2,(hb.cell (by simp;omega)).trans h.p3,(hb.frozen (by simp;omega)).trans h.p4,(hb.frozen (by simp;omega)).trans h.p5,(hb.cell (by simp;omega)).trans h.p6,(hb.cell (by simp;omega)).trans h.p7,(hb.frozen (by simp;omega)).trans h.p8,(hb.frozen (by simp;omega)).trans h.p9,by omega,by omega,by omega,h.lq,h.lr,h.ne⟩
theorem CellsQ.heap {n:Nat} {n2:Bool} {wx wy:World} {hq hr:Nat} {bq:Bool} {A:Option Addr} {k c:Nat} {br:Bool} {A':Option Addr} {k' c':Nat} (h:CellsQ n n2 wx hq hr bq A k c br A' k' c') (e:wy.heap=wx.heap):CellsQ n n2 wy hq hr bq A k c br A' k' c':=by
 have e1:∀ p,wy.cell? p=wx.cell? p:=fun p=>by unfold World.cell?;rw[e]
 have e2:∀ p,wy.frozen? p=wx.frozen? p:=fun p=>by unfold World.frozen?;rw[e]
 exact⟨(e1 _).trans h.x0,(e1 _).trans h.x1,(e1 _).trans h.x2,(e1 _).trans h.x3,(e2 _).trans h.x4,(e2 _).trans h.x5,(e2 _).trans h.x6,(e2 _).trans h.x7,(e1 _).trans h.p1,(e1 _).trans h.p2,(e1 _).trans h.p3,(e2 _).trans h.p4,(e2 _).trans h.p5,(e1 _).trans h.p6,(e1 _).trans h.p7,(e2 _).trans h.p8,(e2 _).trans h.p9,by rw[e];exact h.gq,by rw[e];exact h.gr,by rw[e];exact h.gl,h.lq,h.lr,h.ne⟩
theorem cells_below {n:Nat} {n2:Bool} {wx wy w':World} {hq hr:Nat} {bq:Bool} {A:Option Addr} {k c:Nat} {br:Bool} {A':Option Addr} {k' c' B:Nat} (hb:Below B wy w') (h:CellsQ n n2 wx hq hr bq A k c br A' k' c') (e:wy.heap=wx.heap) (hB:wx.heap.size≤B):CellsQ n n2 w' hq hr bq A k c br A' k' c':=(h.heap e).below hb (by rw[e];exact hB)
theorem set2_same {w:World} {g:Nat} {u v a b:Value} (h0:w.cell? ⟨g,0,none⟩=some a) (h1:w.cell? ⟨g,1,none⟩=some b):((w.setCell ⟨g,0,none⟩ u).setCell ⟨g,1,none⟩ v).cell? ⟨g,0,none⟩=some u∧((w.setCell ⟨g,0,none⟩ u).setCell ⟨g,1,none⟩ v).cell? ⟨g,1,none⟩=some v:=by
 constructor
 ·exact set_far (by omega) (World.cell?_setCell_same' _ _ _ (by rw[h0];rfl))
 ·exact World.cell?_setCell_same' _ _ _ (by rw[set_far (by omega) h1];rfl)
theorem set2_frozen {w:World} {g:Nat} {u v:Value} {p:Addr} {x:Bool} (h:w.frozen? p=x):((w.setCell ⟨g,0,none⟩ u).setCell ⟨g,1,none⟩ v).frozen? p=x:=by simp only[World.frozen?_setCell];exact h
theorem CellsQ.setR {n:Nat} {n2:Bool} {wx:World} {hq hr:Nat} {bq:Bool} {A:Option Addr} {k c:Nat} {br:Bool} {A':Option Addr} {k' c':Nat} (h:CellsQ n n2 wx hq hr bq A k c br A' k' c') (b3:Bool) (A3:Option Addr) (k3 c3:Nat) :
  CellsQ n n2 ((wx.setCell ⟨hr,0,none⟩ (.bool b3)).setCell ⟨hr,1,none⟩ (.slice A3 k3 c3)) hq hr bq A k c b3 A3 k3 c3:=by
 have l1:=h.lq;have l2:=h.lr;exact⟨set2_far h.ne h.x0,set2_far h.ne h.x1,(set2_same h.x2 h.x3).1,(set2_same h.x2 h.x3).2,set2_frozen h.x4,set2_frozen h.x5,set2_frozen h.x6,set2_frozen h.x7,set2_far (by omega) h.p1,set2_far (by omega) h.p2,set2_far (by omega) h.p3,set2_frozen h.p4,set2_frozen h.p5,set2_far (by omega) h.p6,set2_far (by omega) h.p7,set2_frozen h.p8,set2_frozen h.p9,by simpa using h.gq,by simpa using h.gr,by simpa using h.gl,l1,l2,h.ne⟩
theorem CellsQ.setQ {n:Nat} {n2:Bool} {wx:World} {hq hr:Nat} {bq:Bool} {A:Option Addr} {k c:Nat} {br:Bool} {A':Option Addr} {k' c':Nat} (h:CellsQ n n2 wx hq hr bq A k c br A' k' c') (b3:Bool) (A3:Option Addr) (k3 c3:Nat) :
  CellsQ n n2 ((wx.setCell ⟨hq,0,none⟩ (.bool b3)).setCell ⟨hq,1,none⟩ (.slice A3 k3 c3)) hq hr b3 A3 k3 c3 br A' k' c':=by
 have l1:=h.lq;have l2:=h.lr;have l3:¬ hr=hq:=fun e=>h.ne e.symm;exact⟨(set2_same h.x0 h.x1).1,(set2_same h.x0 h.x1).2,set2_far l3 h.x2,set2_far l3 h.x3,set2_frozen h.x4,set2_frozen h.x5,set2_frozen h.x6,set2_frozen h.x7,set2_far (by omega) h.p1,set2_far (by omega) h.p2,set2_far (by omega) h.p3,set2_frozen h.p4,set2_frozen h.p5,set2_far (by omega) h.p6,set2_far (by omega) h.p7,set2_frozen h.p8,set2_frozen h.p9,by simpa using h.gq,by simpa using h.gr,by simpa using h.gl,l1,l2,h.ne⟩
structure FinQ (w:World) (n2:Bool) (wx:World) (hq hr:Nat) (VQ VR:Int) (bq:Bool) (A:Option Addr) (q:List Int) (c:Nat) (br:Bool) (A':Option Addr) (r:List Int) (c':Nat):Prop where
 cs:CellsQ w.heap.size n2 wx hq hr bq A q.length c br A' r.length c'
 rq:RL wx A q
 rr:RL wx A' r
 hlq:Lim q
 hlr:Lim r
 lq:q.length≤4000
 lr:r.length≤4000
 cq:q.length≤c
 cr:r.length≤c'
 vq:sgn bq (lv q)=VQ
 vr:sgn br (lv r)=VR
 bel:Below w.heap.size w wx
theorem rl_one (w:World) (x:Int):RL (w.alloc (.cells #[.int .u64 x] 122)) (some ⟨w.heap.size,0,none⟩) [x]:=by
 refine⟨by simp,fun _=>⟨_,rfl,fun j hj=>?_⟩⟩;have:j=0:=by simp at hj;omega
 subst this;simp[Addr.add,go_sem,lg]
theorem lim_one {x:Int} (h:0≤x∧x<B):Lim [x]:=by
 intro j;cases j with
 | zero=>exact h
 | succ j=>exact⟨by simp[lg],by simp[lg,B]⟩
theorem lv_one (x:Int):lv [x]=x:=by simp[lv,sumB,lg]
theorem rl_below {B:Nat} {w w1:World} {A:Option Addr} {l:List Int} (ho:Below B w w1) (h:RL w A l) (hB:w.heap.size≤B):RL w1 A l:=h.below ho hB
theorem fits_le {v:Int} (h:(v.natAbs:Int)≤256^15000):Fits v:=by
 have h3:=Ymono (show 15001≤8*4000 by omega);have h4:=Ys 15000;have h5:=Yp 15000;refine⟨?_⟩;rw[pow_BY];generalize (256:Int)^(8*4000)=u at *;generalize (256:Int)^(15000+1)=u at *;generalize (256:Int)^15000=u at *;omega
theorem len_fits {r:List Int} (ht:Tr r) (hl:Lim r) (h:Fits (lv r)):r.length≤4000:=by
 have h1:=h.out;have h2:=(lv_bd hl).1;apply len_of_lv ht hl;generalize B^4000=u at *;omega
theorem fits_quo {x y:Int} (hx:0≤x) (h:x<256^15000) (hy:0<y):Fits (x / y):=by
 apply fits_le;have h1:=Int.ediv_nonneg hx (Int.le_of_lt hy);have h2:=Int.ediv_le_self y hx;generalize (256:Int)^15000=u at *;omega
theorem fits_rem {x y:Int} (hx:0≤x) (h:y<256^15000) (hy:0<y):Fits (x%y):=by
 apply fits_le;have h1:=Int.emod_nonneg x (Int.ne_of_gt hy);have h2:=Int.emod_lt_of_pos x hy;generalize (256:Int)^15000=u at *;omega
theorem fits_rem_i {n2:Bool} {s1 s2:ByteArray} (h:nv s2<256^15000) (hy:0<nv s2):Fits (ival true s1%ival n2 s2):=by
 apply fits_le;have e:ival true s1%ival n2 s2=ival true s1%nv s2:=by cases n2 <;> simp[ival,sgn,Int.emod_neg]
 rw[e];have h1:=Int.emod_nonneg (ival true s1) (Int.ne_of_gt hy);have h2:=Int.emod_lt_of_pos (ival true s1) hy;generalize (256:Int)^15000=u at *;omega
theorem fits_quo_i {n2:Bool} {s1 s2:ByteArray} (hx:0≤nv s1) (h:nv s1<256^15000) (hy:0<nv s2):Fits (ival true s1 / ival n2 s2):=by
 apply fits_le;have e:(ival true s1 / ival n2 s2).natAbs=(-nv s1 / nv s2).natAbs:=by cases n2 <;> simp[ival,sgn,Int.ediv_neg]
 rw[e];have h1 : -nv s1 ≤ -nv s1 / nv s2:=by
  rw[Int.le_ediv_iff_mul_le hy];have:nv s1*1≤nv s1*nv s2:=Int.mul_le_mul_of_nonneg_left (by omega) hx;rw[Int.neg_mul];omega
 have h2 : -nv s1 / nv s2≤0:=Int.ediv_nonpos_of_nonpos_of_neg (by omega) (by omega);generalize (256:Int)^15000=u at *;omega
theorem len_zero {r:List Int} (ht:Tr r) (hz:lv r=0) (hl:Lim r):r.length=0:=by
 have:=len_of_lv ht hl (k:=0) (by rw[hz];decide);omega
theorem quo_f (n2:Bool) {x y:Int} (hx:0≤x) (hy:0<y):sgn (!false==n2) (x / y)=sgn false x / sgn n2 y∧sgn false (x%y)=sgn false x%sgn n2 y:=by
 cases n2 <;> simp[sgn,Int.ediv_neg,Int.emod_neg]
theorem quo_z (n2:Bool) {x y:Int} (hx:0≤x) (hy:0<y) (hr:x%y=0):sgn (!true==n2) (x / y)=sgn true x / sgn n2 y∧sgn true (x%y)=sgn true x%sgn n2 y:=by
 have h1:(-x) / y = -(x / y)∧(-x)%y=0:=by
  have:=Int.mul_ediv_add_emod x y;refine(Int.ediv_emod_unique hy).2 ⟨?_,by omega,hy⟩;rw[Int.mul_neg];omega
 cases n2 <;> simp[sgn,Int.ediv_neg,Int.emod_neg,h1.1,h1.2,hr]
theorem quo_t (n2:Bool) {x y:Int} (hx:0≤x) (hy:0<y) (hr:0<x%y):sgn (!true==n2) (x / y)+sgn (!n2) 1=sgn true x / sgn n2 y∧sgn true (x%y)+sgn false y=sgn true x%sgn n2 y:=by
 have h1:(-x) / y = -(x / y)-1∧(-x)%y=y-x%y:=by
  have:=Int.mul_ediv_add_emod x y;have h2:=Int.emod_lt_of_pos x hy;refine(Int.ediv_emod_unique hy).2 ⟨?_,by omega,by omega⟩;rw[Int.mul_sub,Int.mul_neg];omega
 cases n2 <;> simp[sgn,Int.ediv_neg,Int.emod_neg,h1.1,h1.2] <;> omega
theorem divw_c (n1:Bool) (s1:ByteArray) (n2:Bool) (s2:ByteArray) (h1:s1.size≤15000) (h2:s2.size≤15000) (w:World) :
  Calls Tryz.prog 137 #[.agg #[.bool n1,.string s1],.agg #[.bool n2,.string s2]] w (QuoW n1 s1 n2 s2 w):=by
 obtain⟨w4,hw4⟩:∃ w4,w4=((((w.alloc (.cells #[.bool n1,.string s1] 38)).alloc (.cells #[.bool n2,.string s2] 38)).alloc (.cells #[.bool false,.string ⟨#[]⟩] 38)).alloc (.cells #[.bool false,.string ⟨#[]⟩] 38)).alloc (.cells #[.bool n1,.string s1,.bool n2,.string s2] 38):=⟨_,rfl⟩
 have hb4:Below w.heap.size w w4:=by rw[hw4];exact(((((Below.refl _ _).alloc (Nat.le_refl _) _).alloc (by simp;try omega) _).alloc (by simp;try omega) _).alloc (by simp;try omega) _).alloc (by simp;try omega) _
 have d0:w4.cell? ⟨w.heap.size+4,0,none⟩=some (.bool n1):=by rw[hw4];simp[go_sem]
 have d1:w4.cell? ⟨w.heap.size+4,1,none⟩=some (.string s1):=by rw[hw4];simp[go_sem]
 have d2:w4.cell? ⟨w.heap.size+4,2,none⟩=some (.bool n2):=by rw[hw4];simp[go_sem]
 have d3:w4.cell? ⟨w.heap.size+4,3,none⟩=some (.string s2):=by rw[hw4];simp[go_sem]
 have u0:w4.cell? ⟨w.heap.size,0,none⟩=some (.bool n1):=by rw[hw4];simp[go_sem]
 have u1:w4.cell? ⟨w.heap.size+1,0,none⟩=some (.bool n2):=by rw[hw4];simp[go_sem]
 have u2:w4.cell? ⟨w.heap.size+2,0,none⟩=some (.bool false):=by rw[hw4];simp[go_sem]
 have u3:w4.cell? ⟨w.heap.size+2,1,none⟩=some (.string ⟨#[]⟩):=by rw[hw4];simp[go_sem]
 have u4:w4.frozen? ⟨w.heap.size+2,0,none⟩=false:=by rw[hw4];simp[go_sem]
 have u5:w4.frozen? ⟨w.heap.size+2,1,none⟩=false:=by rw[hw4];simp[go_sem]
 have u6:w4.cell? ⟨w.heap.size+3,0,none⟩=some (.bool false):=by rw[hw4];simp[go_sem]
 have u7:w4.cell? ⟨w.heap.size+3,1,none⟩=some (.string ⟨#[]⟩):=by rw[hw4];simp[go_sem]
 have u8:w4.frozen? ⟨w.heap.size+3,0,none⟩=false:=by rw[hw4];simp[go_sem]
 have u9:w4.frozen? ⟨w.heap.size+3,1,none⟩=false:=by rw[hw4];simp[go_sem]
 have hsz:w4.heap.size=w.heap.size+5:=by rw[hw4];simp
 have hkk:∀ (w':World) (h:Below w4.heap.size w4 w'),w'.cell? ⟨w.heap.size,0,none⟩=some (.bool n1)∧w'.cell? ⟨w.heap.size+1,0,none⟩=some (.bool n2)∧w'.cell? ⟨w.heap.size+2,0,none⟩=some (.bool false)∧w'.cell? ⟨w.heap.size+2,1,none⟩=some (.string ⟨#[]⟩)∧w'.frozen? ⟨w.heap.size+2,0,none⟩=false∧w'.frozen? ⟨w.heap.size+2,1,none⟩=false∧w'.cell? ⟨w.heap.size+3,0,none⟩=some (.bool false)∧w'.cell? ⟨w.heap.size+3,1,none⟩=some (.string ⟨#[]⟩)∧w'.frozen? ⟨w.heap.size+3,0,none⟩=false∧w'.frozen? ⟨w.heap.size+3,1,none⟩=false :=
  fun w' h=>⟨(h.cell (by simp[hsz];try omega)).trans u0,(h.cell (by simp[hsz];try omega)).trans u1,(h.cell (by simp[hsz];try omega)).trans u2,(h.cell (by simp[hsz];try omega)).trans u3,(h.frozen (by simp[hsz];try omega)).trans u4,(h.frozen (by simp[hsz];try omega)).trans u5,(h.cell (by simp[hsz];try omega)).trans u6,(h.cell (by simp[hsz];try omega)).trans u7,(h.frozen (by simp[hsz];try omega)).trans u8,(h.frozen (by simp[hsz];try omega)).trans u9⟩
 have HW:=Lib.hid hw4;have HS:=Lib.hid hb4;have HSZ:=Lib.hid hsz;have HK:=Lib.hid hkk;unfold QuoW;by_cases hb:bad2 n1 s1 n2 s2=0
 ·obtain⟨o1,o2⟩:=bad2_ok.1 hb
  rw[hb];have HC:=Lib.hid (read2_c n1 s1 n2 s2 _ 2 w4 d0 d1 d2 d3 o1 o2);clear d0 d1 d2 d3 u0 u1 u2 u3 u4 u5 u6 u7 u8 u9 hsz hkk hb4 hw4 hb o1 o2;go_enter Tryz.func137,Tryz.ntmps137;go_wp2_with fail
  rw[← HW.out];refine(HC.out).mono ?_;rintro e w' ⟨g,c,g1,k1,r1,g2,k2,r2,rfl,hg,hc,N1,N2,hbr⟩;have c0:=N1.c0;have c1:=N1.c1;have c2:=N2.c0;have c3:=N2.c1;obtain⟨e0,e1,e2,e3,e4,e5,e6,e7,e8,e9⟩:=HK.out _ hbr;have hg2:g<w'.heap.size:=World.block_lt_of_cell? w' _ c0;have HR:=Lib.hid (HS.out.trans (hbr.mono (by rw[HSZ.out];omega)));have HGN:=Lib.hid (show w.heap.size+3<g by have:=HSZ.out;omega);have HL:=Lib.hid (show w.heap.size+3<w'.heap.size by have:=hbr.size;rw[HSZ.out]at this;omega);by_cases hz:nv s2=0
  ·have hsc:=fun (w5:World) (h5:w5.heap=w'.heap)=>div_zero (some ⟨g1,0,none⟩) (some ⟨g2,0,none⟩) k1 k2 k1 k2 r1 r2 N1.len N2.len N1.le N2.le (Nat.le_refl _) (Nat.le_refl _) w5 (N1.row.heap h5) (N2.row.heap h5) N2.lim (by rw[N2.val];exact hz)
   have HC:=Lib.hid hsc;have HZ:=Lib.hid hz;clear hsc hg hbr N1 N2 hz;go_wp2
   go_region_held3 (fun w'=>w'.cell? ⟨g,1,none⟩=some (.slice (some ⟨g1,0,none⟩) k1 k1)∧w'.cell? ⟨g,3,none⟩=some (.slice (some ⟨g2,0,none⟩) k2 k2)) (first|go_keep|exact⟨z1,z3⟩) (first|(go_at_call 118;refine(HC.out _ (by rfl)).mono ?_;rintro e w2 ⟨rfl,hbr⟩;have z1:=(hbr.cell (p:=⟨g,1,none⟩) hg2).trans c1;have z3:=(hbr.cell (p:=⟨g,3,none⟩) hg2).trans c3;have p0:=(hbr.cell (p:=⟨w.heap.size,0,none⟩) (Nat.lt_of_le_of_lt (Nat.add_le_add_left (by decide:0≤3) w.heap.size) HL.out)).trans e0;have p1:=(hbr.cell (p:=⟨w.heap.size+1,0,none⟩) (Nat.lt_of_le_of_lt (Nat.add_le_add_left (by decide:1≤3) w.heap.size) HL.out)).trans e1;have p2:=(hbr.cell (p:=⟨w.heap.size+2,0,none⟩) (Nat.lt_of_le_of_lt (Nat.add_le_add_left (by decide:2≤3) w.heap.size) HL.out)).trans e2;have p3:=(hbr.cell (p:=⟨w.heap.size+2,1,none⟩) (Nat.lt_of_le_of_lt (Nat.add_le_add_left (by decide:2≤3) w.heap.size) HL.out)).trans e3;have p4:=(hbr.frozen (p:=⟨w.heap.size+2,0,none⟩) (Nat.lt_of_le_of_lt (Nat.add_le_add_left (by decide:2≤3) w.heap.size) HL.out)).trans e4;have p5:=(hbr.frozen (p:=⟨w.heap.size+2,1,none⟩) (Nat.lt_of_le_of_lt (Nat.add_le_add_left (by decide:2≤3) w.heap.size) HL.out)).trans e5;have p6:=(hbr.cell (p:=⟨w.heap.size+3,0,none⟩) (Nat.lt_of_le_of_lt (Nat.add_le_add_left (by decide:3≤3) w.heap.size) HL.out)).trans e6;have p7:=(hbr.cell (p:=⟨w.heap.size+3,1,none⟩) (Nat.lt_of_le_of_lt (Nat.add_le_add_left (by decide:3≤3) w.heap.size) HL.out)).trans e7;have p8:=(hbr.frozen (p:=⟨w.heap.size+3,0,none⟩) (Nat.lt_of_le_of_lt (Nat.add_le_add_left (by decide:3≤3) w.heap.size) HL.out)).trans e8;have p9:=(hbr.frozen (p:=⟨w.heap.size+3,1,none⟩) (Nat.lt_of_le_of_lt (Nat.add_le_add_left (by decide:3≤3) w.heap.size) HL.out)).trans e9;have HB2:=bel_join HR.out hbr HR.out.size rfl rfl rfl rfl;have hl3:=Nat.lt_of_lt_of_le HL.out hbr.size;clear hbr))
   clear c0 c1 c2 c3 e0 e1 e2 e3 e4 e5 e6 e7 e8 e9 z1 z3;go_wp2
   refine bodyPost_ret (by simp[results,Tryz.results137,go_sem,p2,p3,p6,p7];try rfl) rfl ?_;exact⟨fun h=>absurd rfl h,fun _ _=>rfl,fun _ h=>absurd HZ.out h,((((HB2.setCell (by simp;try omega) _).setCell (by simp;try omega) _).setCell (by simp;try omega) _).setCell (by simp;try omega) _)⟩
  ·have hsc:=fun (w5:World) (h5:w5.heap=w'.heap)=>div_c (some ⟨g1,0,none⟩) (some ⟨g2,0,none⟩) k1 k2 k1 k2 r1 r2 N1.len N2.len N1.le N2.le (Nat.le_refl _) (Nat.le_refl _) w5 (N1.row.heap h5) (N2.row.heap h5) N1.lim N2.lim (by rw[N2.val];exact hz)
   rw[N1.val,N2.val]at hsc
   have HC:=Lib.hid hsc;have HZ:=Lib.hid hz;have HX:=Lib.hid (And.intro (nv_bd s1).1 (And.intro (size_pow h1) (And.intro (size_pow h2) (show 0<nv s2 by have:=(nv_bd s2).1;omega))));have HROW:=Lib.hid (And.intro N2.row (And.intro N2.lim (And.intro N2.len (And.intro N2.le N2.val))));clear hsc hg hbr N1 N2 hz;go_wp2
   go_region_held3 (fun w'=>w'.cell? ⟨g,1,none⟩=some (.slice (some ⟨g1,0,none⟩) k1 k1)∧w'.cell? ⟨g,3,none⟩=some (.slice (some ⟨g2,0,none⟩) k2 k2)) (first|go_keep|exact⟨z1,z3⟩) (first|(go_at_call 118;refine(HC.out _ (by rfl)).mono ?_;rintro e w2 ⟨x,y,q,r,rfl,hq,hr,hlq,htq,hlr,htr,hvq,hvr,hbr⟩;obtain⟨A,cc,rfl,hqc,hql⟩:=hq;obtain⟨A',cc',rfl,hrc,hrl⟩:=hr;have z1:=(hbr.cell (p:=⟨g,1,none⟩) hg2).trans c1;have z3:=(hbr.cell (p:=⟨g,3,none⟩) hg2).trans c3;have HRW:=rl_below hbr HROW.out.1 (Nat.le_refl _);have p0:=(hbr.cell (p:=⟨w.heap.size,0,none⟩) (Nat.lt_of_le_of_lt (Nat.add_le_add_left (by decide:0≤3) w.heap.size) HL.out)).trans e0;have p1:=(hbr.cell (p:=⟨w.heap.size+1,0,none⟩) (Nat.lt_of_le_of_lt (Nat.add_le_add_left (by decide:1≤3) w.heap.size) HL.out)).trans e1;have p2:=(hbr.cell (p:=⟨w.heap.size+2,0,none⟩) (Nat.lt_of_le_of_lt (Nat.add_le_add_left (by decide:2≤3) w.heap.size) HL.out)).trans e2;have p3:=(hbr.cell (p:=⟨w.heap.size+2,1,none⟩) (Nat.lt_of_le_of_lt (Nat.add_le_add_left (by decide:2≤3) w.heap.size) HL.out)).trans e3;have p4:=(hbr.frozen (p:=⟨w.heap.size+2,0,none⟩) (Nat.lt_of_le_of_lt (Nat.add_le_add_left (by decide:2≤3) w.heap.size) HL.out)).trans e4;have p5:=(hbr.frozen (p:=⟨w.heap.size+2,1,none⟩) (Nat.lt_of_le_of_lt (Nat.add_le_add_left (by decide:2≤3) w.heap.size) HL.out)).trans e5;have p6:=(hbr.cell (p:=⟨w.heap.size+3,0,none⟩) (Nat.lt_of_le_of_lt (Nat.add_le_add_left (by decide:3≤3) w.heap.size) HL.out)).trans e6;have p7:=(hbr.cell (p:=⟨w.heap.size+3,1,none⟩) (Nat.lt_of_le_of_lt (Nat.add_le_add_left (by decide:3≤3) w.heap.size) HL.out)).trans e7;have p8:=(hbr.frozen (p:=⟨w.heap.size+3,0,none⟩) (Nat.lt_of_le_of_lt (Nat.add_le_add_left (by decide:3≤3) w.heap.size) HL.out)).trans e8;have p9:=(hbr.frozen (p:=⟨w.heap.size+3,1,none⟩) (Nat.lt_of_le_of_lt (Nat.add_le_add_left (by decide:3≤3) w.heap.size) HL.out)).trans e9;have HB2:=bel_join HR.out hbr HR.out.size rfl rfl rfl rfl;have hl3:=Nat.lt_of_lt_of_le HL.out hbr.size;have hg3:=Nat.lt_of_lt_of_le hg2 hbr.size;clear hbr))
   clear c0 c1 c2 c3 e0 e1 e2 e3 e4 e5 e6 e7 e8 e9;have l0:w.heap.size<w2.heap.size:=by omega
   have l1:w.heap.size+1<w2.heap.size:=by omega
   have l2:w.heap.size+2<w2.heap.size:=by omega
   obtain⟨bq,hbq⟩:∃ bq,(!n1==n2)=bq:=⟨_,rfl⟩
   go_upto_region 7 with fail
   go_cut [11,12] (fun a b wx=>∃ hq hr:Nat,a = .pointer (some ⟨hq,0,none⟩)∧b = .pointer (some ⟨hr,0,none⟩)∧Two6 w2 wx hq hr bq n1 A q.length cc A' r.length cc')
   case first =>
    go_region_held3 (fun w'=>w'.cell? ⟨w.heap.size,0,none⟩=some (.bool n1)∧w'.cell? ⟨w.heap.size+1,0,none⟩=some (.bool n2)) (first|go_keep|exact⟨p0,p1⟩|exact⟨by simp[go_sem,p0,p1,l0,l1],by simp[go_sem,p0,p1,l0,l1]⟩) (first|fail)
    ·go_wp2;go_meet;exact⟨_,_,rfl,rfl,two6_a _ _ _ _ _ _ _ _ _⟩
    ·go_wp2;go_meet;exact⟨_,_,rfl,rfl,two6_b _ _ _ _ _ _ _ _ _⟩
   case rest =>
    obtain⟨hq,hr,rfl,rfl,T6⟩:=hcut;have bb:=T6.bel;have l3:=T6.lq;have l4:=T6.lr;have l5:=bb.size;have CS:CellsQ w.heap.size n2 wc hq hr bq A q.length cc n1 A' r.length cc':=⟨T6.x0,T6.x1,T6.x2,T6.x3,T6.x4,T6.x5,T6.x6,T6.x7,(bb.cell (by simp;omega)).trans p1,(bb.cell (by simp;omega)).trans p2,(bb.cell (by simp;omega)).trans p3,(bb.frozen (by simp;omega)).trans p4,(bb.frozen (by simp;omega)).trans p5,(bb.cell (by simp;omega)).trans p6,(bb.cell (by simp;omega)).trans p7,(bb.frozen (by simp;omega)).trans p8,(bb.frozen (by simp;omega)).trans p9,T6.gq,T6.gr,by omega,by omega,by omega,T6.ne⟩
    have hgg:w.heap.size+3<g:=HGN.out;have z3w:=(bb.cell (p:=⟨g,3,none⟩) (by simp;omega)).trans z3;have p0w:=(bb.cell (p:=⟨w.heap.size,0,none⟩) (by simp;omega)).trans p0;have HRW:=Lib.hid (And.intro (rl_below bb HRW (Nat.le_refl _)) HROW.out.2);have lq:q.length≤4000:=len_fits htq hlq (by rw[hvq];exact fits_quo HX.out.1 HX.out.2.1 HX.out.2.2.2);have lr:r.length≤4000:=len_fits htr hlr (by rw[hvr];exact fits_rem HX.out.1 HX.out.2.2.1 HX.out.2.2.2);have HQ:=Lib.hid (rl_below bb hql (Nat.le_refl _));have HR_:=Lib.hid (rl_below bb hrl (Nat.le_refl _));have HB6:=Lib.hid (HB2.trans (bb.mono HB2.size));have HCS:=Lib.hid CS;clear z1 z3 bb hql hrl HB2 hl3 l0 l1 l2 l3 l4 l5 hg2 hg3 hgg T6 CS p0 p1 p2 p3 p4 p5 p6 p7 p8 p9;have HE:=Lib.hid (And.intro hvq (And.intro hvr (And.intro hbq (And.intro htq htr))));clear hvq hvr hbq;cases n1 with
    | false =>
     have HF:=Lib.hid (show FinQ w n2 wc hq hr (ival false s1 / ival n2 s2) (ival false s1%ival n2 s2) bq A q cc false A' r cc' from ⟨HCS.out,HQ.out,HR_.out,hlq,hlr,lq,lr,hqc,hrc,by rw[HE.out.1,← HE.out.2.2.1];exact(quo_f n2 HX.out.1 HX.out.2.2.2).1,by rw[HE.out.2.1];exact(quo_f n2 HX.out.1 HX.out.2.2.2).2,HB6.out⟩);clear hlq hlr lq lr hqc hrc htq htr;go_wp2
     have n1_:¬ hq=w.heap.size+1+1:=by have:=HF.out.cs.lq;omega
     have n2_:¬ hr=w.heap.size+1+1:=by have:=HF.out.cs.lr;omega
     have n3:¬ hq=w.heap.size+1+1+1:=by have:=HF.out.cs.lq;omega
     have n4:¬ hr=w.heap.size+1+1+1:=by have:=HF.out.cs.lr;omega
     have m23:¬ w.heap.size+3=w.heap.size+1+1:=by omega
     have x0:=HF.out.cs.x0;have x1:=HF.out.cs.x1;have x2:=HF.out.cs.x2;have x3:=HF.out.cs.x3;go_region_held3 (fun w'=>w'.cell? ⟨hq,0,none⟩=some (.bool bq)∧w'.cell? ⟨hq,1,none⟩=some (.slice A q.length cc)∧w'.cell? ⟨hr,0,none⟩=some (.bool false)∧w'.cell? ⟨hr,1,none⟩=some (.slice A' r.length cc')) (first|go_keep|exact⟨set2_far n1_ HC8.out.x0,set2_far n1_ HC8.out.x1,set2_far n2_ HC8.out.x2,set2_far n2_ HC8.out.x3⟩|exact⟨set2_far n3 (set2_far n1_ HC8.out.x0),set2_far n3 (set2_far n1_ HC8.out.x1),set2_far n4 (set2_far n2_ HC8.out.x2),set2_far n4 (set2_far n2_ HC8.out.x3)⟩) (first|(go_at_call 119;have hh7:=HC7;clear hh7;refine(told_c false A' _ cc' r rfl HF.out.lr HF.out.cr _ (by exact HR7.out) HF.out.hlr).mono ?_;rintro e w8 ⟨rfl,hbt⟩;have HC8:=Lib.hid (cells_below hbt HC7.out rfl (Nat.le_refl _));clear z0 z1 z2 z3;have y0:=HC8.out.x0;have y1:=HC8.out.x1;have y2:=HC8.out.x2;have y3:=HC8.out.x3;have t2:=HC8.out.p2;have t3:=HC8.out.p3;have t4:=HC8.out.p4;have t5:=HC8.out.p5;have t6:=HC8.out.p6;have t7:=HC8.out.p7;have t8:=HC8.out.p8;have t9:=HC8.out.p9;have HB8:=Lib.hid (bel_join HB7.out hbt HB7.out.size rfl rfl rfl rfl);have t10:=(set2_far (u := .bool (decide (sgn bq (lv q)<0))) (v := .string (encN (lv q))) m23 t6);have t11:=(set2_far (u := .bool (decide (sgn bq (lv q)<0))) (v := .string (encN (lv q))) m23 t7);clear hbt)|(go_at_call 119;refine(told_c bq A _ cc q rfl HF.out.lq HF.out.cq _ (by exact HF.out.rq) HF.out.hlq).mono ?_;rintro e w7 ⟨rfl,hbt⟩;have HC7:=Lib.hid (cells_below hbt HF.out.cs rfl (Nat.le_refl _));have z0:=HC7.out.x0;have z1:=HC7.out.x1;have z2:=HC7.out.x2;have z3:=HC7.out.x3;have HR7:=Lib.hid (rl_below hbt HF.out.rr (Nat.le_refl _));have HB7:=Lib.hid (bel_join HF.out.bel hbt HF.out.bel.size rfl rfl rfl rfl);clear hbt))
     go_wp2
     refine bodyPost_ret (by simp[results,Tryz.results137,go_sem,t2,t3,t6,t7];try rfl) rfl ?_;exact⟨fun h=>absurd rfl h,fun _ h=>absurd h HZ.out,fun _ _=>by rw[← put_sgn HF.out.hlq HF.out.vq,← put_sgn HF.out.hlr HF.out.vr],((((HB8.out.setCell (by simp;try omega) _).setCell (by simp;try omega) _).setCell (by simp;try omega) _).setCell (by simp;try omega) _)⟩
    | true =>
     go_wp2
     ·have hT:0<r.length:=by omega
      have hrp:0<nv s1%nv s2:=by
       rw[← HE.out.2.1];have h1:=(lv_bd hlr).1;have h2:lv r≠0:=fun h=>by have:=len_zero htr h hlr;omega
       omega
      have HT:=Lib.hid hrp;clear hT hrp;have x2:=HCS.out.x2;have x3:=HCS.out.x3;go_still_tail 6,(by kernel_rfl)
      change wpList _ _ _ _ _ wc.drew;go_wp2_with fail
      refine(sum_c true false A' (some ⟨g2,0,none⟩) r.length k2 cc' k2 r r2 rfl HRW.out.2.2.1 lr HRW.out.2.2.2.1 hrc (Nat.le_refl _) _ (by exact HR_.out) (by exact HRW.out.1) hlr HRW.out.2.1).mono ?_;clear x2 x3;rintro e w7 ⟨b3,x,r3,rfl,hx,hl3,ht3,hv3,hb7⟩;obtain⟨A3,c3,rfl,hc3,hrl3⟩:=hx;have CS7:=cells_below hb7 HCS.out rfl (Nat.le_refl _);have CS8:=CS7.setR b3 A3 r3.length c3;have rq8:=(rl_below hb7 HQ.out (Nat.le_refl _)).pair CS7.x2 CS7.x3 (.bool b3) (.slice A3 r3.length c3);have rr8:=hrl3.pair CS7.x2 CS7.x3 (.bool b3) (.slice A3 r3.length c3);have HB8:=((bel_join HB6.out hb7 HB6.out.size rfl rfl rfl rfl).setCell (p:=⟨hr,0,none⟩) (by have:=HCS.out.lr;simp;omega) (.bool b3)).setCell (p:=⟨hr,1,none⟩) (by have:=HCS.out.lr;simp;omega) (.slice A3 r3.length c3);have e0:=CS7.x2;have e1:=CS7.x3;have e2:=CS7.x6;have e3:=CS7.x7;obtain⟨w8,hw8⟩:∃ w8,w8=(w7.setCell ⟨hr,0,none⟩ (.bool b3)).setCell ⟨hr,1,none⟩ (.slice A3 r3.length c3):=⟨_,rfl⟩
      rw[← hw8]at CS8 rq8 rr8 HB8
      have H8:=Lib.hid hw8;have HC8:=Lib.hid CS8;have HQ8:=Lib.hid rq8;have HR8:=Lib.hid rr8;have HBL8:=Lib.hid HB8;have HV3:=Lib.hid (And.intro hv3 (And.intro hl3 (And.intro ht3 hc3)));clear hw8 CS7 CS8 rq8 rr8 HB8 hrl3 hv3 hl3 ht3 hc3 hb7;go_upto_region 10 with fail
      rw[← H8.out];clear e0 e1 e2 e3;have e0:=HC8.out.x0;have e1:=HC8.out.x1;have e2:=HC8.out.p1;go_wp2_with fail
      have hb9:Below w8.heap.size w8 (w8.alloc (.cells #[.int .u64 1] 122)):=(Below.refl _ _).alloc (Nat.le_refl _) _;have CS9:=HC8.out.below hb9 (Nat.le_refl _);refine(sum_c bq (!n2) A (some ⟨w8.heap.size,0,none⟩) q.length 1 cc 1 q [1] rfl rfl lq (by omega) hqc (Nat.le_refl _) _ (by exact rl_below hb9 HQ8.out (Nat.le_refl _)) (by exact rl_one w8 1) hlq (lim_one (by decide))).mono ?_;rintro e w10 ⟨b4,x,q4,rfl,hx,hl4,ht4,hv4,hb10⟩;obtain⟨A4,c4,rfl,hc4,hrl4⟩:=hx;have CS10:=cells_below hb10 CS9 rfl (Nat.le_refl _);have CS11:=CS10.setQ b4 A4 q4.length c4;have rr11:=(rl_below hb10 (rl_below hb9 HR8.out (Nat.le_refl _)) (Nat.le_refl _)).pair CS10.x0 CS10.x1 (.bool b4) (.slice A4 q4.length c4);have rq11:=hrl4.pair CS10.x0 CS10.x1 (.bool b4) (.slice A4 q4.length c4);have HB9:=HBL8.out.trans (hb9.mono HBL8.out.size);have HB11:=((bel_join HB9 hb10 HB9.size rfl rfl rfl rfl).setCell (p:=⟨hq,0,none⟩) (by have:=HCS.out.lq;simp;omega) (.bool b4)).setCell (p:=⟨hq,1,none⟩) (by have:=HCS.out.lq;simp;omega) (.slice A4 q4.length c4);clear e0 e1 e2;have e0:=CS10.x0;have e1:=CS10.x1;have e2:=CS10.x4;have e3:=CS10.x5;have hvq4:sgn b4 (lv q4)=ival true s1 / ival n2 s2:=by rw[hv4,HE.out.1,lv_one,← HE.out.2.2.1];exact(quo_t n2 HX.out.1 HX.out.2.2.2 HT.out).1
      have hvr3:sgn b3 (lv r3)=ival true s1%ival n2 s2:=by rw[HV3.out.1,HE.out.2.1,HRW.out.2.2.2.2];exact(quo_t n2 HX.out.1 HX.out.2.2.2 HT.out).2
      have lq4:q4.length≤4000:=short_row hl4 ht4 hvq4 (fits_quo_i HX.out.1 HX.out.2.1 HX.out.2.2.2);have lr3:r3.length≤4000:=short_row HV3.out.2.1 HV3.out.2.2.1 hvr3 (fits_rem_i HX.out.2.2.1 HX.out.2.2.2);obtain⟨w11,hw11⟩:∃ w11,w11=(w10.setCell ⟨hq,0,none⟩ (.bool b4)).setCell ⟨hq,1,none⟩ (.slice A4 q4.length c4):=⟨_,rfl⟩
      rw[← hw11]at CS11 rq11 rr11 HB11
      have HF:=Lib.hid (show FinQ w n2 w11 hq hr (ival true s1 / ival n2 s2) (ival true s1%ival n2 s2) b4 A4 q4 c4 b3 A3 r3 c3 from ⟨CS11,rq11,rr11,hl4,HV3.out.2.1,lq4,lr3,hc4,HV3.out.2.2.2,hvq4,hvr3,HB11⟩);have H11:=Lib.hid hw11;clear hw11 CS9 CS10 CS11 rq11 rr11 HB9 HB11 hrl4 hv4 hl4 ht4 hc4 hb10 hb9 hvq4 hvr3 lq4 lr3 hlq hlr lq lr hqc hrc htq htr p0w z3w;go_upto_region 11 with fail
      rw[← H11.out];clear e0 e1 e2 e3;have n1_:¬ hq=w.heap.size+1+1:=by have:=HF.out.cs.lq;omega
      have n2_:¬ hr=w.heap.size+1+1:=by have:=HF.out.cs.lr;omega
      have n3:¬ hq=w.heap.size+1+1+1:=by have:=HF.out.cs.lq;omega
      have n4:¬ hr=w.heap.size+1+1+1:=by have:=HF.out.cs.lr;omega
      have m23:¬ w.heap.size+3=w.heap.size+1+1:=by omega
      have x0:=HF.out.cs.x0;have x1:=HF.out.cs.x1;have x2:=HF.out.cs.x2;have x3:=HF.out.cs.x3;go_region_held3 (fun w'=>w'.cell? ⟨hq,0,none⟩=some (.bool b4)∧w'.cell? ⟨hq,1,none⟩=some (.slice A4 q4.length c4)∧w'.cell? ⟨hr,0,none⟩=some (.bool b3)∧w'.cell? ⟨hr,1,none⟩=some (.slice A3 r3.length c3)) (first|go_keep|exact⟨set2_far n1_ HC8.out.x0,set2_far n1_ HC8.out.x1,set2_far n2_ HC8.out.x2,set2_far n2_ HC8.out.x3⟩|exact⟨set2_far n3 (set2_far n1_ HC8.out.x0),set2_far n3 (set2_far n1_ HC8.out.x1),set2_far n4 (set2_far n2_ HC8.out.x2),set2_far n4 (set2_far n2_ HC8.out.x3)⟩) (first|(go_at_call 119;have hh7:=HC7;clear hh7;refine(told_c b3 A3 _ c3 r3 rfl HF.out.lr HF.out.cr _ (by exact HR7.out) HF.out.hlr).mono ?_;rintro e w8 ⟨rfl,hbt⟩;have HC8:=Lib.hid (cells_below hbt HC7.out rfl (Nat.le_refl _));clear z0 z1 z2 z3;have y0:=HC8.out.x0;have y1:=HC8.out.x1;have y2:=HC8.out.x2;have y3:=HC8.out.x3;have t2:=HC8.out.p2;have t3:=HC8.out.p3;have t4:=HC8.out.p4;have t5:=HC8.out.p5;have t6:=HC8.out.p6;have t7:=HC8.out.p7;have t8:=HC8.out.p8;have t9:=HC8.out.p9;have HB8:=Lib.hid (bel_join HB7.out hbt HB7.out.size rfl rfl rfl rfl);have t10:=(set2_far (u := .bool (decide (sgn b4 (lv q4)<0))) (v := .string (encN (lv q4))) m23 t6);have t11:=(set2_far (u := .bool (decide (sgn b4 (lv q4)<0))) (v := .string (encN (lv q4))) m23 t7);clear hbt)|(go_at_call 119;refine(told_c b4 A4 _ c4 q4 rfl HF.out.lq HF.out.cq _ (by exact HF.out.rq) HF.out.hlq).mono ?_;rintro e w7 ⟨rfl,hbt⟩;have HC7:=Lib.hid (cells_below hbt HF.out.cs rfl (Nat.le_refl _));have z0:=HC7.out.x0;have z1:=HC7.out.x1;have z2:=HC7.out.x2;have z3:=HC7.out.x3;have HR7:=Lib.hid (rl_below hbt HF.out.rr (Nat.le_refl _));have HB7:=Lib.hid (bel_join HF.out.bel hbt HF.out.bel.size rfl rfl rfl rfl);clear hbt))
      go_wp2
      refine bodyPost_ret (by simp[results,Tryz.results137,go_sem,t2,t3,t6,t7];try rfl) rfl ?_;exact⟨fun h=>absurd rfl h,fun _ h=>absurd h HZ.out,fun _ _=>by rw[← put_sgn HF.out.hlq HF.out.vq,← put_sgn HF.out.hlr HF.out.vr],((((HB8.out.setCell (by simp;try omega) _).setCell (by simp;try omega) _).setCell (by simp;try omega) _).setCell (by simp;try omega) _)⟩
     ·have hrl0:r.length=0:=by omega
      have hz1:nv s1%nv s2=0:=by rw[← HE.out.2.1];unfold lv;rw[hrl0];rfl
      have HF:=Lib.hid (show FinQ w n2 wc hq hr (ival true s1 / ival n2 s2) (ival true s1%ival n2 s2) bq A q cc true A' r cc' from ⟨HCS.out,HQ.out,HR_.out,hlq,hlr,lq,lr,hqc,hrc,by rw[HE.out.1,← HE.out.2.2.1];exact(quo_z n2 HX.out.1 HX.out.2.2.2 hz1).1,by rw[HE.out.2.1];exact(quo_z n2 HX.out.1 HX.out.2.2.2 hz1).2,HB6.out⟩);clear hlq hlr lq lr hqc hrc htq htr;clear hrl0 hz1;have n1_:¬ hq=w.heap.size+1+1:=by have:=HF.out.cs.lq;omega
      have n2_:¬ hr=w.heap.size+1+1:=by have:=HF.out.cs.lr;omega
      have n3:¬ hq=w.heap.size+1+1+1:=by have:=HF.out.cs.lq;omega
      have n4:¬ hr=w.heap.size+1+1+1:=by have:=HF.out.cs.lr;omega
      have m23:¬ w.heap.size+3=w.heap.size+1+1:=by omega
      have x0:=HF.out.cs.x0;have x1:=HF.out.cs.x1;have x2:=HF.out.cs.x2;have x3:=HF.out.cs.x3;go_region_held3 (fun w'=>w'.cell? ⟨hq,0,none⟩=some (.bool bq)∧w'.cell? ⟨hq,1,none⟩=some (.slice A q.length cc)∧w'.cell? ⟨hr,0,none⟩=some (.bool true)∧w'.cell? ⟨hr,1,none⟩=some (.slice A' r.length cc')) (first|go_keep|exact⟨set2_far n1_ HC8.out.x0,set2_far n1_ HC8.out.x1,set2_far n2_ HC8.out.x2,set2_far n2_ HC8.out.x3⟩|exact⟨set2_far n3 (set2_far n1_ HC8.out.x0),set2_far n3 (set2_far n1_ HC8.out.x1),set2_far n4 (set2_far n2_ HC8.out.x2),set2_far n4 (set2_far n2_ HC8.out.x3)⟩) (first|(go_at_call 119;have hh7:=HC7;clear hh7;refine(told_c true A' _ cc' r rfl HF.out.lr HF.out.cr _ (by exact HR7.out) HF.out.hlr).mono ?_;rintro e w8 ⟨rfl,hbt⟩;have HC8:=Lib.hid (cells_below hbt HC7.out rfl (Nat.le_refl _));clear z0 z1 z2 z3;have y0:=HC8.out.x0;have y1:=HC8.out.x1;have y2:=HC8.out.x2;have y3:=HC8.out.x3;have t2:=HC8.out.p2;have t3:=HC8.out.p3;have t4:=HC8.out.p4;have t5:=HC8.out.p5;have t6:=HC8.out.p6;have t7:=HC8.out.p7;have t8:=HC8.out.p8;have t9:=HC8.out.p9;have HB8:=Lib.hid (bel_join HB7.out hbt HB7.out.size rfl rfl rfl rfl);have t10:=(set2_far (u := .bool (decide (sgn bq (lv q)<0))) (v := .string (encN (lv q))) m23 t6);have t11:=(set2_far (u := .bool (decide (sgn bq (lv q)<0))) (v := .string (encN (lv q))) m23 t7);clear hbt)|(go_at_call 119;refine(told_c bq A _ cc q rfl HF.out.lq HF.out.cq _ (by exact HF.out.rq) HF.out.hlq).mono ?_;rintro e w7 ⟨rfl,hbt⟩;have HC7:=Lib.hid (cells_below hbt HF.out.cs rfl (Nat.le_refl _));have z0:=HC7.out.x0;have z1:=HC7.out.x1;have z2:=HC7.out.x2;have z3:=HC7.out.x3;have HR7:=Lib.hid (rl_below hbt HF.out.rr (Nat.le_refl _));have HB7:=Lib.hid (bel_join HF.out.bel hbt HF.out.bel.size rfl rfl rfl rfl);clear hbt))
      go_wp2
      refine bodyPost_ret (by simp[results,Tryz.results137,go_sem,t2,t3,t6,t7];try rfl) rfl ?_;exact⟨fun h=>absurd rfl h,fun _ h=>absurd h HZ.out,fun _ _=>by rw[← put_sgn HF.out.hlq HF.out.vq,← put_sgn HF.out.hlr HF.out.vr],((((HB8.out.setCell (by simp;try omega) _).setCell (by simp;try omega) _).setCell (by simp;try omega) _).setCell (by simp;try omega) _)⟩
 ·have HC:=Lib.hid (read2_bad n1 s1 n2 s2 _ 2 w4 d0 d1 d2 d3 hb)
  have hz1:(bad2 n1 s1 n2 s2==0)=false:=beq_eq_false_iff_ne.mpr hb;have hz2:(bad2 n1 s1 n2 s2 != 0)=true:=bne_iff_ne.mpr hb;have HN:=Lib.hid hb;clear d0 d1 d2 d3 u0 u1 u2 u3 u4 u5 u6 u7 u8 u9 hsz hkk hb4 hw4 hb h1 h2;go_enter Tryz.func137,Tryz.ntmps137;go_wp2_with fail
  rw[← HW.out];refine(HC.out).mono ?_;rintro e w' ⟨rfl,hbr⟩;obtain⟨e0,e1,e2,e3,e4,e5,e6,e7,e8,e9⟩:=HK.out _ hbr;have HR:=Lib.hid (HS.out.trans (hbr.mono (by rw[HSZ.out];omega)));clear hbr;go_wp2
  refine bodyPost_ret (by simp[results,Tryz.results137,go_sem,e0,e1,e2,e3,e4,e5,e6,e7,e8,e9];try rfl) rfl ?_;exact⟨fun _=>rfl,fun h=>absurd h HN.out,fun h=>absurd h HN.out,((((HR.out.setCell (by simp;try omega) _).setCell (by simp;try omega) _).setCell (by simp;try omega) _).setCell (by simp;try omega) _)⟩
def GcdP (n1:Bool) (s1:ByteArray) (n2:Bool) (s2:ByteArray) (w:World) (e:Ending) (w':World):Prop :=
 (bad2 n1 s1 n2 s2≠0→e = .returned (.tuple #[.agg #[.bool false,.string ⟨#[]⟩],.int .i64 (bad2 n1 s1 n2 s2)])) ∧
 (bad2 n1 s1 n2 s2=0→e = .returned (.tuple #[.agg #[.bool false,.string (encN ((Nat.gcd (nv s1).toNat (nv s2).toNat:Nat):Int))],.int .i64 0]))∧Below w.heap.size w w'
structure GcdI (n G:Nat) (w w1:World) (A:Option Addr) (a:List Int) (c:Nat) (A':Option Addr) (b:List Int) (c':Nat):Prop where
 ra:RL w1 A a
 rb:RL w1 A' b
 la:Lim a
 lb:Lim b
 tb:Tr b
 na:a.length≤4000
 nb:b.length≤4000
 ca:a.length≤c
 cb:b.length≤c'
 gcd:Nat.gcd (lv a).toNat (lv b).toNat=G
 bel:Below w.heap.size w w1
 e0:w1.cell? ⟨n+2,0,none⟩=some (.bool false)
 e1:w1.cell? ⟨n+2,1,none⟩=some (.string ⟨#[]⟩)
 f0:w1.frozen? ⟨n+2,0,none⟩=false
 f1:w1.frozen? ⟨n+2,1,none⟩=false
 sz:n+2<w1.heap.size
theorem gcd_step {x y:Int} (hx:0≤x) (hy:0<y):Nat.gcd y.toNat (x%y).toNat=Nat.gcd x.toNat y.toNat:=by
 obtain⟨a,rfl⟩:=Int.eq_ofNat_of_zero_le hx;obtain⟨b,rfl⟩:=Int.eq_ofNat_of_zero_le (Int.le_of_lt hy);rw[show((a:Int)%(b:Int))=((a%b:Nat):Int) from rfl,Int.toNat_natCast,Int.toNat_natCast,Int.toNat_natCast,Nat.gcd_comm b,← Nat.gcd_rec,Nat.gcd_comm]
theorem GcdI.drN {n G:Nat} {w w1:World} {A:Option Addr} {a:List Int} {c:Nat} {A':Option Addr} {b:List Int} {c':Nat} (h:GcdI n G w w1 A a c A' b c') (k:Nat):GcdI n G w (w1.drewN k) A a c A' b c' :=
 ⟨h.ra.drN _,h.rb.drN _,h.la,h.lb,h.tb,h.na,h.nb,h.ca,h.cb,h.gcd,bdrN h.bel _,h.e0,h.e1,h.f0,h.f1,h.sz⟩
theorem GcdI.step {n G:Nat} {w w1 w2:World} {A:Option Addr} {a:List Int} {c:Nat} {A':Option Addr} {b:List Int} {c':Nat} (h:GcdI n G w w1 A a c A' b c') (hb:Below w1.heap.size w1 w2) (h0:¬ b.length=0) {A2:Option Addr} {r:List Int} {c2:Nat} (hr:RL w2 A2 r) (hl:Lim r) (ht:Tr r) (hc:r.length≤c2) (hv:lv r=lv a%lv b):GcdI n G w w2 A' b c' A2 r c2∧(lv r).toNat<(lv b).toNat:=by
 have hp:0<lv b:=by
  have h1:=(lv_bd h.lb).1;have h2:lv b≠0:=fun e=>h0 (len_zero h.tb e h.lb);omega
 have h3:=Int.emod_nonneg (lv a) (Int.ne_of_gt hp);have h4:=Int.emod_lt_of_pos (lv a) hp;have hle:r.length≤b.length:=by
  apply len_of_lv ht hl;have:=(lv_bd h.lb).2;omega
 exact⟨⟨h.rb.below hb (Nat.le_refl _),hr,h.lb,hl,ht,h.nb,by have:=h.nb;omega,h.cb,hc,by rw[hv,gcd_step (lv_bd h.la).1 hp];exact h.gcd,h.bel.trans (hb.mono h.bel.size),(hb.cell h.sz).trans h.e0,(hb.cell h.sz).trans h.e1,(hb.frozen h.sz).trans h.f0,(hb.frozen h.sz).trans h.f1,Nat.lt_of_lt_of_le h.sz hb.size⟩,by omega⟩
theorem gcdw_c (n1:Bool) (s1:ByteArray) (n2:Bool) (s2:ByteArray) (h1:s1.size≤15000) (h2:s2.size≤15000) (w:World) :
  Calls Tryz.prog 109 #[.agg #[.bool n1,.string s1],.agg #[.bool n2,.string s2]] w (GcdP n1 s1 n2 s2 w):=by
 obtain⟨w4,hw4⟩:∃ w4,w4=(((w.alloc (.cells #[.bool n1,.string s1] 38)).alloc (.cells #[.bool n2,.string s2] 38)).alloc (.cells #[.bool false,.string ⟨#[]⟩] 38)).alloc (.cells #[.bool n1,.string s1,.bool n2,.string s2] 38):=⟨_,rfl⟩
 have hb4:Below w.heap.size w w4:=by rw[hw4];exact((((Below.refl _ _).alloc (Nat.le_refl _) _).alloc (by simp;try omega) _).alloc (by simp;try omega) _).alloc (by simp;try omega) _
 have d0:w4.cell? ⟨w.heap.size+3,0,none⟩=some (.bool n1):=by rw[hw4];simp[go_sem]
 have d1:w4.cell? ⟨w.heap.size+3,1,none⟩=some (.string s1):=by rw[hw4];simp[go_sem]
 have d2:w4.cell? ⟨w.heap.size+3,2,none⟩=some (.bool n2):=by rw[hw4];simp[go_sem]
 have d3:w4.cell? ⟨w.heap.size+3,3,none⟩=some (.string s2):=by rw[hw4];simp[go_sem]
 have u0:w4.cell? ⟨w.heap.size,0,none⟩=some (.bool n1):=by rw[hw4];simp[go_sem]
 have u1:w4.cell? ⟨w.heap.size+1,0,none⟩=some (.bool n2):=by rw[hw4];simp[go_sem]
 have u2:w4.cell? ⟨w.heap.size+2,0,none⟩=some (.bool false):=by rw[hw4];simp[go_sem]
 have u3:w4.cell? ⟨w.heap.size+2,1,none⟩=some (.string ⟨#[]⟩):=by rw[hw4];simp[go_sem]
 have u4:w4.frozen? ⟨w.heap.size+2,0,none⟩=false:=by rw[hw4];simp[go_sem]
 have u5:w4.frozen? ⟨w.heap.size+2,1,none⟩=false:=by rw[hw4];simp[go_sem]
 have hsz:w4.heap.size=w.heap.size+4:=by rw[hw4];simp
 have hkk:∀ (w':World) (h:Below w4.heap.size w4 w'),w'.cell? ⟨w.heap.size,0,none⟩=some (.bool n1)∧w'.cell? ⟨w.heap.size+1,0,none⟩=some (.bool n2)∧w'.cell? ⟨w.heap.size+2,0,none⟩=some (.bool false)∧w'.cell? ⟨w.heap.size+2,1,none⟩=some (.string ⟨#[]⟩)∧w'.frozen? ⟨w.heap.size+2,0,none⟩=false∧w'.frozen? ⟨w.heap.size+2,1,none⟩=false :=
  fun w' h=>⟨(h.cell (by simp[hsz];try omega)).trans u0,(h.cell (by simp[hsz];try omega)).trans u1,(h.cell (by simp[hsz];try omega)).trans u2,(h.cell (by simp[hsz];try omega)).trans u3,(h.frozen (by simp[hsz];try omega)).trans u4,(h.frozen (by simp[hsz];try omega)).trans u5⟩
 have HW:=Lib.hid hw4;have HS:=Lib.hid hb4;have HSZ:=Lib.hid hsz;have HK:=Lib.hid hkk;unfold GcdP;by_cases hb:bad2 n1 s1 n2 s2=0
 ·obtain⟨o1,o2⟩:=bad2_ok.1 hb
  rw[hb];have HC:=Lib.hid (read2_c n1 s1 n2 s2 _ 2 w4 d0 d1 d2 d3 o1 o2);clear d0 d1 d2 d3 u0 u1 u2 u3 u4 u5 hsz hkk hb4 hw4 hb o1 o2 h1 h2;go_enter Tryz.func109,Tryz.ntmps109;go_wp2_with fail
  rw[← HW.out];refine(HC.out).mono ?_;rintro e w' ⟨g,c,g1,k1,r1,g2,k2,r2,rfl,hg,hc,N1,N2,hbr⟩;have c0:=N1.c0;have c1:=N1.c1;have c2:=N2.c0;have c3:=N2.c1;obtain⟨e0,e1,e2,e3,e4,e5⟩:=HK.out _ hbr;have hg2:g<w'.heap.size:=World.block_lt_of_cell? w' _ c0;have HR:=Lib.hid (HS.out.trans (hbr.mono (by rw[HSZ.out];omega)));have HL:=Lib.hid (show w.heap.size+2<w'.heap.size by have:=hbr.size;rw[HSZ.out]at this;omega);have HI0:=Lib.hid (show GcdI w.heap.size (Nat.gcd (nv s1).toNat (nv s2).toNat) w w' (some ⟨g1,0,none⟩) r1 k1 (some ⟨g2,0,none⟩) r2 k2 from ⟨N1.row,N2.row,N1.lim,N2.lim,N2.tr,by rw[N1.len];exact N1.le,by rw[N2.len];exact N2.le,by rw[N1.len];exact Nat.le_refl _,by rw[N2.len];exact Nat.le_refl _,by rw[N1.val,N2.val],HR.out,e2,e3,e4,e5,HL.out⟩);have HLEN:=Lib.hid (And.intro N1.len N2.len);clear hg hbr N1 N2;go_wp2
  repeat(go_quiet (fail);try go_wp2)
  rw[← HLEN.out.1,← HLEN.out.2];rw[← HLEN.out.1,← HLEN.out.2]at HI0
  clear c0 c1 c2 c3 e0 e1 e2 e3 e4 e5;go_loopg [8,9] (lv r2).toNat (fun gk x y w1=>∃ A a na c A' b nb c',Hid (gk=(lv b).toNat)∧x = .slice A na c∧y = .slice A' nb c'∧Hid (a.length=na∧b.length=nb)∧Hid (GcdI w.heap.size (Nat.gcd (nv s1).toNat (nv s2).toNat) w w1 A a c A' b c'))
  case atStart=>exact⟨_,_,_,_,_,_,_,_,rfl,rfl,rfl,Lib.hid ⟨rfl,rfl⟩,Lib.hid (GcdI.drN HI0.out _)⟩
  case round =>
   obtain⟨A,a,na,ca,A',b,nb,cb,hgk,rfl,rfl,HL,HI⟩:=hrel;have HNA:=Lib.hid (show na≤4000 by have:=HI.out.na;rw[HL.out.1]at this;exact this);have HNB:=Lib.hid (show nb≤4000 by have:=HI.out.nb;rw[HL.out.2]at this;exact this);have HCA:=Lib.hid (show na≤ca by have:=HI.out.ca;rw[HL.out.1]at this;exact this);have HCB:=Lib.hid (show nb≤cb by have:=HI.out.cb;rw[HL.out.2]at this;exact this);by_cases hz:nb=0
   ·have ht:decide ((0:Int)<(nb:Int))=false:=decide_eq_false (by omega)
    have ht2:(0<nb)=False:=eq_false (by omega);have ht3:((0:Int)<(nb:Int))=False:=eq_false (by omega);have hlz:lv b=0:=by unfold lv;rw[HL.out.2,hz];rfl
    have HG:=Lib.hid (show lv a=((Nat.gcd (nv s1).toNat (nv s2).toNat:Nat):Int) by have h1:=HI.out.gcd;rw[hlz]at h1;have h2:=(lv_bd HI.out.la).1;rw[← h1];simp;omega);clear hz hlz;go_wp2_with fail
    refine(told_c false A na ca a HL.out.1 HNA.out HCA.out _ HI.out.ra HI.out.la).mono ?_;rintro e w2 ⟨rfl,hbt⟩;have q0:=(hbt.cell HI.out.sz).trans HI.out.e0;have q1:=(hbt.cell HI.out.sz).trans HI.out.e1;have q2:=(hbt.frozen HI.out.sz).trans HI.out.f0;have q3:=(hbt.frozen HI.out.sz).trans HI.out.f1;have HB3:=Lib.hid (HI.out.bel.trans (hbt.mono HI.out.bel.size));clear hbt;go_wp2
    refine bodyPost_ret (by simp[results,Tryz.results109,go_sem,q0,q1];try rfl) rfl ?_;exact⟨fun h=>absurd rfl h,fun _=>by rw[← HG.out,show decide (sgn false (lv a)<0)=false from decide_eq_false (by have:=(lv_bd HI.out.la).1;simp[sgn];omega)],(HB3.out.setCell (by simp;try omega) _).setCell (by simp;try omega) _⟩
   ·have ht:decide ((0:Int)<(nb:Int))=true:=decide_eq_true (by omega)
    have ht2:(0<nb)=True:=eq_true (by omega);have ht3:((0:Int)<(nb:Int))=True:=eq_true (by omega);have HZ:=Lib.hid (show ¬ b.length=0 by rw[HL.out.2];exact hz);clear hz;go_wp2_with fail
    refine(div_c A A' na nb ca cb a b HL.out.1 HL.out.2 HNA.out HNB.out HCA.out HCB.out _ HI.out.ra HI.out.rb HI.out.la HI.out.lb (fun e=>HZ.out (len_zero HI.out.tb e HI.out.lb))).mono ?_;rintro e w2 ⟨x,y,q,r,rfl,hq,hr,hlq,htq,hlr,htr,hvq,hvr,hbr⟩;obtain⟨A1,c1,rfl,hqc,hql⟩:=hq;obtain⟨A2,c2,rfl,hrc,hrl⟩:=hr;have HN:=Lib.hid (HI.out.step hbr HZ.out hrl hlr htr hrc hvr);clear hqc hql hrc hrl hlq htq hlr htr hvq hvr hbr;go_wp2
    go_roundg (lv r).toNat
    case measure=>rw[hgk.out];exact HN.out.2
    case rel=>exact⟨_,b,_,_,_,r,_,_,rfl,rfl,rfl,Lib.hid ⟨HL.out.2,rfl⟩,Lib.hid HN.out.1⟩
 ·have HC:=Lib.hid (read2_bad n1 s1 n2 s2 _ 2 w4 d0 d1 d2 d3 hb)
  have hz1:(bad2 n1 s1 n2 s2==0)=false:=beq_eq_false_iff_ne.mpr hb;have hz2:(bad2 n1 s1 n2 s2 != 0)=true:=bne_iff_ne.mpr hb;have HN:=Lib.hid hb;clear d0 d1 d2 d3 u0 u1 u2 u3 u4 u5 hsz hkk hb4 hw4 hb h1 h2;go_enter Tryz.func109,Tryz.ntmps109;go_wp2_with fail
  rw[← HW.out];refine(HC.out).mono ?_;rintro e w' ⟨rfl,hbr⟩;obtain⟨e0,e1,e2,e3,e4,e5⟩:=HK.out _ hbr;have HR:=Lib.hid (HS.out.trans (hbr.mono (by rw[HSZ.out];omega)));clear hbr;go_wp2
  refine bodyPost_ret (by simp[results,Tryz.results109,go_sem,e0,e1,e2,e3,e4,e5];try rfl) rfl ?_;exact⟨fun _=>rfl,fun h=>absurd h HN.out,(HR.out.setCell (by simp;try omega) _).setCell (by simp;try omega) _⟩
end Go.Proofs.YtfcjnhkkfmgmpaaGreat
