/- The reference's rational numbers: Whole, Valid, Sign, Add, Mul, Same, Made. The reference: Same on rational numbers; exponents: greater, Natural. The reference's polynomials: insert, Make. -/
import Derived.Test.YtopclbeomcggiaaGreatC02
import Derived.Test.YtopclbeomcggiaaGreatC20
import Derived.Test.YtopclbeomcggiaaGreatC22
import Derived.Test.YtopclbeomcggiaaGreatC26
set_option linter.unusedVariables false
set_option linter.unusedSimpArgs false
set_option maxHeartbeats 16000000
set_option maxRecDepth 100000
section
namespace Go.Proofs.YtopclbeomcggiaaGreat
open Go.RowKit Q
theorem sign2_any (v:Value) (q:Rat) (w:World) (h:IsRat w v q):Calls Tryz.prog 67 #[v] w (Ret w (.int .i64 (sgnZ q.num))):=by
 obtain⟨s1,a1,l1,c1,s2,a2,l2,c2,rfl,i1,i2⟩:=h
 go_enter Tryz.func67,Tryz.ntmps67
 go_upto_region 1 with (fail)
 refine abs1 fun W hb0 B1 hsz=>?_;have e1:=B1.at1 0 _ rfl;have e2:=B1.at1 1 _ rfl
 go_wp2_with (go_at_call 100;refine (sign1_any _ _ _ _ (i1.on hb0)).mono ?_;rintro e w1 ⟨rfl,hb1⟩)
 go_ret;exact⟨rfl,hb0.trans (hb1.mono hb0.size)⟩
theorem whole2_any (n:Int) (w:World) (h1:-4611686018427387904<=n) (h2:n<=4611686018427387904):Calls Tryz.prog 24 #[.int .i64 n] w (RetRat w n):=by
 go_enter Tryz.func24,Tryz.ntmps24
 go_upto_region 1 with (fail)
 refine abs1 fun W hb0 B1 hsz=>?_;refine wp_region_S trivial (none) (0) (Okr.none) [.eq (.int .i64 n),.int (by decide) (n),.int (by decide) (1),.rat (by decide) (n:Rat)] [3,4,5,6] rfl rfl rfl rfl ⟨?_,?_,?_,?_,trivial⟩ ?_
 ·exact fun _ _ a _ _ _=>xM rfl (a 0 rfl)
 ·intro A w1 hA hL hS he;have hb:=hS rfl;have h3:=eT 3 (he.1 rfl);have hf0:=eF A 70;refine goOn_plain rfl ?_;refine stepG_call (f:=70) (args:=#[.int .i64 n]) rfl rfl ?_ ?_
  ·exact gZ
  ·refine (of1_any n _ h1 h2).mono ?_;rintro e w' ⟨neg,m,rfl,hi,hb'⟩;exact⟨_,rfl,hb',neg,m,rfl,hi⟩
 ·intro A w1 hA hL hS he;have hb:=hS rfl;have hf0:=eF A 70;have hc0:=eC A (.int .i64 1);refine goOn_plain rfl ?_;refine stepG_call (f:=70) (args:=#[(.int .i64 1)]) rfl rfl ?_ ?_
  ·exact gZ
  ·refine (of1_any 1 _ (by omega) (by omega)).mono ?_;rintro e w' ⟨neg,m,rfl,hi,hb'⟩;exact⟨_,rfl,hb',neg,m,rfl,hi⟩
 ·intro A w1 hA hL hS he;obtain⟨v4,h4,f4⟩:=fT 4 (he.1 rfl);obtain⟨v5,h5,f5⟩:=fT 5 (he.2.1 rfl);refine goOn_plain rfl ?_;obtain⟨x4,y4,rfl,i4⟩:=f4;obtain⟨x5,y5,rfl,i5⟩:=f5;obtain⟨a4,k4,q4,rfl,-,-⟩:=i4.shape;obtain⟨a5,k5,q5,rfl,-,-⟩:=i5.shape;refine stepG_value (c:=.agg #[.bool x4,.slice a4 k4 q4,.bool x5,.slice a5 k5 q5]) rfl rfl (Below.refl _ _) ⟨_,_,_,_,_,_,_,_,rfl,by rw [Rat.num_intCast];exact i4,by rw [Rat.den_intCast];exact i5⟩ ?_;exact gZ
 ·intro w1 hL;have hb1:=hL.below;simp only [TailL,FactL.eq,FactL.int,FactL.rat,FactL.of,List.length_cons,List.length_nil,List.drop_succ_cons,List.drop_zero];rintro _ - _ - v6 h6;obtain⟨t1,b1,g1,d1,t2,b2,g2,d2,rfl,j1,j2⟩:=h6;go_frame;have C1:=B1.on hb1
  go_wp2_with (refine wpList_store_blk rfl _ (.tmp 2) (.tmp 6) rfl _ _ _ _ rfl rfl C1 rfl sizeRat isRat_ones ?_;intro w3 R gr)
  exact ret_blk rfl rfl rfl R Tryz.underlying41 rfl sizeRat (rat_end hb0 hb1 (by omega) C1 ⟨_,_,_,_,_,_,_,_,rfl,j1,j2⟩ gr)
theorem valid2_any (v:Value) (q:Rat) (w:World) (h:IsRat w v q) (k:Rs q):Calls Tryz.prog 66 #[v] w (Ret w (.bool true)):=by
 obtain⟨s1,a1,l1,c1,s2,a2,l2,c2,rfl,i1,i2⟩:=h;have hd0:0<(q.den:Int):=by have:=q.den_nz;omega
 have hsg:∀ W,Below w.heap.size w W->Calls Tryz.prog 100 #[.agg #[.bool s2,.slice a2 l2 c2]] W (Ret W (.int .i64 1)):=fun W hb=>by
  have:=sign1_any s2 _ _ W (i2.on hb);rwa [show sgnZ (q.den:Int)=1 by unfold sgnZ;rw [if_neg (by omega),if_neg (by omega)]] at this
 have hg:Int.gcd q.num (q.den:Int)=1:=by have:=q.reduced;simpa [Nat.Coprime,Int.gcd] using this
 have hfit:Fits (q.den:Int):=by unfold Fits;have:=k.1;omega
 have hgc:∀ W,Below w.heap.size w W->Calls Tryz.prog 101 #[.agg #[.bool s1,.slice a1 l1 c1],.agg #[.bool s2,.slice a2 l2 c2]] W (RetI W 1):=fun W hb=>by
  have:=gcd1_any _ _ _ _ _ _ W (i1.on hb) (i2.on hb) (cs2 k.num) (cs2 k.den) hfit;rwa [hg] at this
 go_enter Tryz.func66,Tryz.ntmps66
 go_upto_region 1 with (fail)
 refine abs1 fun W hb0 B hsz=>?_;refine wp_region_S trivial (none) (0) (Okr.none) [.eq (.pointer (some ⟨w.heap.size,0,none⟩)),.eq (.agg #[.bool s1,.slice a1 l1 c1]),.ret (.bool true),.eq (.bool false),.eq (.bool false),.eq (.pointer (some ⟨w.heap.size,2,none⟩)),.eq (.agg #[.bool s2,.slice a2 l2 c2]),.ret (.bool true),.eq (.bool false),.eq (.bool false),.eq (.bool false),.eq (.pointer (some ⟨w.heap.size,2,none⟩)),.eq (.agg #[.bool s2,.slice a2 l2 c2]),.ret (.int .i64 1),.eq (.bool false),.eq (.bool false)] [3,4,5,6,7,8,9,10,11,12,13,14,15,16,17,18] rfl rfl rfl rfl ⟨?_,?_,?_,?_,?_,?_,?_,?_,?_,?_,?_,?_,?_,?_,?_,?_,trivial⟩ ?_
 ·intro A w1 hA hL hS he;have h1:A.eval (.tmp 1)=.pointer (some ⟨w.heap.size,0,none⟩):=hA 1 rfl;exact pZ rfl
 ·intro A w1 hA hL hS he;have hb:=hL.below;have h3:=eT 3 (he.1 rfl);have c0:=((B).on hb).at1 0 _ rfl;have c1:=((B).on hb).at1 1 _ rfl;exact pZ rfl
 ·intro A w1 hA hL hS he;have hb:=hS rfl;have h4:=eT 4 (he.1 rfl);have hf0:=eF A 99;refine goOn_plain rfl ?_;refine stepG_call (f:=99) (args:=#[.agg #[.bool s1,.slice a1 l1 c1]]) rfl rfl ?_ ?_
  ·exact gZ
  ·refine (valid1_any _ _ _ _ ((i1.on hb0).on hb) k.rk.num').mono ?_;rintro e w' ⟨rfl,hb'⟩;exact⟨_,rfl,hb',rfl⟩
 ·intro A w1 hA hL hS he;have h5:=eT 5 (he.1 rfl);exact pZ rfl
 ·exact fun _ _ _ _ _ e=>xM rfl (e.1 rfl)
 ·intro A w1 hA hL hS he;have h7:=eT 7 (he.1 rfl);have h1:A.eval (.tmp 1)=.pointer (some ⟨w.heap.size,0,none⟩):=hA 1 rfl;exact yZ h7 rfl
 ·intro A w1 hA hL hS he;have hb:=hL.below;have h7:=eT 7 (he.2.1 rfl);have h8:=eT 8 (he.1 rfl);have c0:=((B).on hb).at1 2 _ rfl;have c1:=((B).on hb).at1 3 _ rfl;exact yZ h7 rfl
 ·intro A w1 hA hL hS he;have hb:=hS rfl;have h7:=eT 7 (he.2.1 rfl);have h9:=eT 9 (he.1 rfl);have hf0:=eF A 99;refine goOn_yes rfl rfl h7 ?_;refine stepG_call (f:=99) (args:=#[.agg #[.bool s2,.slice a2 l2 c2]]) rfl rfl ?_ ?_
  ·exact gZ
  ·refine (valid1_any _ _ _ _ ((i2.on hb0).on hb) k.rk.den').mono ?_;rintro e w' ⟨rfl,hb'⟩;exact⟨_,rfl,hb',rfl⟩
 ·intro A w1 hA hL hS he;have h7:=eT 7 (he.2.1 rfl);have h10:=eT 10 (he.1 rfl);exact yZ h7 rfl
 ·exact fun _ _ _ _ _ e=>goOn_plain rfl (stepG_pk rfl (e.1 rfl) rfl (e.2.1 rfl))
 ·exact fun _ _ _ _ _ e=>xM rfl (e.1 rfl)
 ·intro A w1 hA hL hS he;have h13:=eT 13 (he.1 rfl);have h1:A.eval (.tmp 1)=.pointer (some ⟨w.heap.size,0,none⟩):=hA 1 rfl;exact yZ h13 rfl
 ·intro A w1 hA hL hS he;have hb:=hL.below;have h13:=eT 13 (he.2.1 rfl);have h14:=eT 14 (he.1 rfl);have c0:=((B).on hb).at1 2 _ rfl;have c1:=((B).on hb).at1 3 _ rfl;exact yZ h13 rfl
 ·intro A w1 hA hL hS he;have hb:=hS rfl;have h13:=eT 13 (he.2.1 rfl);have h15:=eT 15 (he.1 rfl);have hf0:=eF A 100;refine goOn_yes rfl rfl h13 ?_;refine stepG_call (f:=100) (args:=#[.agg #[.bool s2,.slice a2 l2 c2]]) rfl rfl ?_ ?_
  ·exact gZ
  ·refine (hsg _ (hb0.trans (hb.mono hb0.size))).mono ?_;rintro e w' ⟨rfl,hb'⟩;exact⟨_,rfl,hb',rfl⟩
 ·intro A w1 hA hL hS he;have h13:=eT 13 (he.2.1 rfl);have h16:=eT 16 (he.1 rfl);have hc0:=eC A (.int .i64 0);exact yZ h13 rfl
 ·exact fun _ _ _ _ _ e=>goOn_plain rfl (stepG_pk rfl (e.1 rfl) rfl (e.2.1 rfl))
 ·intro w1 hL;simp only [TailL,FactL.eq,FactL.ret,List.length_cons,List.length_nil,List.drop_succ_cons,List.drop_zero];go_frame;have hb1:=hb0.trans (hL.below.mono hb0.size);have C:=B.on hL.below
  go_upto_region 3 with (fail)
  refine wp_region_S trivial (none) (0) (Okr.none) [.eq (.pointer (some ⟨w.heap.size,0,none⟩)),.eq (.agg #[.bool s1,.slice a1 l1 c1]),.eq (.pointer (some ⟨w.heap.size,2,none⟩)),.eq (.agg #[.bool s2,.slice a2 l2 c2]),.int (by decide) (1),.int (by decide) (1),.ret (.bool (decide ((1:Int)=1)))] [19,20,21,22,23,24,25] rfl rfl rfl rfl ⟨?_,?_,?_,?_,?_,?_,?_,trivial⟩ ?_
  ·intro A w1 hA hL hS he;have h1:A.eval (.tmp 1)=.pointer (some ⟨w.heap.size,0,none⟩):=hA 1 rfl;exact pZ rfl
  ·intro A w1 hA hL hS he;have hb:=hL.below;have h19:=eT 19 (he.1 rfl);have c0:=((C).on hb).at1 0 _ rfl;have c1:=((C).on hb).at1 1 _ rfl;exact pZ rfl
  ·intro A w1 hA hL hS he;have h1:A.eval (.tmp 1)=.pointer (some ⟨w.heap.size,0,none⟩):=hA 1 rfl;exact pZ rfl
  ·intro A w1 hA hL hS he;have hb:=hL.below;have h21:=eT 21 (he.1 rfl);have c0:=((C).on hb).at1 2 _ rfl;have c1:=((C).on hb).at1 3 _ rfl;exact pZ rfl
  ·intro A w1 hA hL hS he;have hb:=hS rfl;have h20:=eT 20 (he.1 rfl);have h22:=eT 22 (he.2.1 rfl);have hf0:=eF A 101;refine goOn_plain rfl ?_;refine stepG_call (f:=101) (args:=#[.agg #[.bool s1,.slice a1 l1 c1],.agg #[.bool s2,.slice a2 l2 c2]]) rfl rfl ?_ ?_
   ·exact gZ
   ·refine (hgc _ (hb1.trans (hb.mono hb1.size))).mono ?_;rintro e w' ⟨neg,m,rfl,hi,hb'⟩;exact⟨_,rfl,hb',neg,m,rfl,hi⟩
  ·intro A w1 hA hL hS he;have hb:=hS rfl;have hf0:=eF A 70;have hc0:=eC A (.int .i64 1);refine goOn_plain rfl ?_;refine stepG_call (f:=70) (args:=#[(.int .i64 1)]) rfl rfl ?_ ?_
   ·exact gZ
   ·refine (of1_any 1 _ (by omega) (by omega)).mono ?_;rintro e w' ⟨neg,m,rfl,hi,hb'⟩;exact⟨_,rfl,hb',neg,m,rfl,hi⟩
  ·intro A w1 hA hL hS he;have hb:=hS rfl;obtain⟨v23,h23,f23⟩:=fT 23 (he.1 rfl);obtain⟨v24,h24,f24⟩:=fT 24 (he.2.1 rfl);have hf0:=eF A 69;refine goOn_plain rfl ?_;refine stepG_call (f:=69) (args:=#[v23,v24]) rfl rfl ?_ ?_
   ·exact gZ
   ·obtain⟨n23,m23,rfl,i23⟩:=f23;obtain⟨n24,m24,rfl,i24⟩:=f24;refine (same1_any _ _ _ _ _ _ _ i23 i24 (by decide) (by decide)).mono ?_;rintro e w' ⟨rfl,hb'⟩;exact⟨_,rfl,hb',rfl⟩
  ·intro w2 hL2;simp only [TailL,FactL.eq,FactL.ret,FactL.int,FactL.of,List.length_cons,List.length_nil,List.drop_succ_cons,List.drop_zero];rintro _ - _ -;go_frame;go_wp2;go_ret;exact⟨rfl,hb1.trans (hL2.below.mono hb1.size)⟩
theorem add2_any (v1 v2:Value) (p q:Rat) (w:World) (h1:IsRat w v1 p) (h2:IsRat w v2 q) (k1:Rs p) (k2:Rs q) :
  Calls Tryz.prog 81 #[v1,v2] w (RetRat w (p+q)):=by
 rw [<- divInt_add];obtain⟨s1,a1,l1,c1,s2,a2,l2,c2,rfl,i1,i2⟩:=h1;obtain⟨s3,a3,l3,c3,s4,a4,l4,c4,rfl,i3,i4⟩:=h2;obtain⟨df,db,dz⟩:=densS k1 k2;have cb:=crossS k1 k2;have cb':=crossS k2 k1;have sb:nbits (p.num*(q.den:Int)+q.num*(p.den:Int)).natAbs<=CS / 4:=by have:=sum_bits cb cb';unfold CS at *;omega
 have cb1:nbits (p.num*(q.den:Int)).natAbs<=CS:=by unfold CS at *;omega
 have cb2:nbits (q.num*(p.den:Int)).natAbs<=CS:=by unfold CS at *;omega
 go_enter Tryz.func81,Tryz.ntmps81
 go_upto_region 1 with (fail)
 refine abs3 fun W hb0 B1 B2 B3 hsz=>?_;replace i1:=i1.on hb0;replace i2:=i2.on hb0;replace i3:=i3.on hb0;replace i4:=i4.on hb0;refine wp_region_L mixed (none) (0) (Okr.none) [.eq (.pointer (some ⟨w.heap.size,0,none⟩)),.eq (.agg #[.bool s1,.slice a1 l1 c1]),.eq (.pointer (some ⟨w.heap.size+1,2,none⟩)),.eq (.agg #[.bool s4,.slice a4 l4 c4]),.int (by decide) ((p.num*(q.den:Int))),.eq (.pointer (some ⟨w.heap.size+1,0,none⟩)),.eq (.agg #[.bool s3,.slice a3 l3 c3]),.eq (.pointer (some ⟨w.heap.size,2,none⟩)),.eq (.agg #[.bool s2,.slice a2 l2 c2]),.int (by decide) ((q.num*(p.den:Int))),.int (by decide) ((p.num*(q.den:Int)+q.num*(p.den:Int))),.box 39 W.heap.size [.bool false,.slice none 0 0]] [6,7,8,9,10,11,12,13,14,15,16,5] rfl rfl rfl rfl ⟨?_,?_,?_,?_,?_,?_,?_,?_,?_,?_,?_,?_,trivial⟩ ?_
 ·intro A w1 hA hL hS he;have h2:A.eval (.tmp 2)=.pointer (some ⟨w.heap.size,0,none⟩):=hA 2 rfl;exact pZ rfl
 ·intro A w1 hA hL hS he;have hb:=hL.below;have h6:=eT 6 (he.1 rfl);have c0:=((B1).on hb).at1 0 _ rfl;have c1:=((B1).on hb).at1 1 _ rfl;exact pZ rfl
 ·intro A w1 hA hL hS he;have h3:A.eval (.tmp 3)=.pointer (some ⟨w.heap.size+1,0,none⟩):=hA 3 rfl;exact pZ rfl
 ·intro A w1 hA hL hS he;have hb:=hL.below;have h8:=eT 8 (he.1 rfl);have c0:=((B2).on hb).at1 2 _ rfl;have c1:=((B2).on hb).at1 3 _ rfl;exact pZ rfl
 ·intro A w1 hA hL hS he;have hb:=hS rfl;have h7:=eT 7 (he.1 rfl);have h9:=eT 9 (he.2.1 rfl);have hf0:=eF A 105;refine goOn_plain rfl ?_;refine stepG_call (f:=105) (args:=#[.agg #[.bool s1,.slice a1 l1 c1],.agg #[.bool s4,.slice a4 l4 c4]]) rfl rfl ?_ ?_
  ·exact gZ
  ·refine (mul1_any _ _ _ _ _ _ _ (i1.on hb) (i4.on hb) (cs4 k1.num) (cs4 k2.den)).mono ?_;rintro e w' ⟨neg,m,rfl,hi,hb'⟩;exact⟨_,rfl,hb',neg,m,rfl,hi⟩
 ·intro A w1 hA hL hS he;have h3:A.eval (.tmp 3)=.pointer (some ⟨w.heap.size+1,0,none⟩):=hA 3 rfl;exact pZ rfl
 ·intro A w1 hA hL hS he;have hb:=hL.below;have h11:=eT 11 (he.1 rfl);have c0:=((B2).on hb).at1 0 _ rfl;have c1:=((B2).on hb).at1 1 _ rfl;exact pZ rfl
 ·intro A w1 hA hL hS he;have h2:A.eval (.tmp 2)=.pointer (some ⟨w.heap.size,0,none⟩):=hA 2 rfl;exact pZ rfl
 ·intro A w1 hA hL hS he;have hb:=hL.below;have h13:=eT 13 (he.1 rfl);have c0:=((B1).on hb).at1 2 _ rfl;have c1:=((B1).on hb).at1 3 _ rfl;exact pZ rfl
 ·intro A w1 hA hL hS he;have hb:=hS rfl;have h12:=eT 12 (he.1 rfl);have h14:=eT 14 (he.2.1 rfl);have hf0:=eF A 105;refine goOn_plain rfl ?_;refine stepG_call (f:=105) (args:=#[.agg #[.bool s3,.slice a3 l3 c3],.agg #[.bool s2,.slice a2 l2 c2]]) rfl rfl ?_ ?_
  ·exact gZ
  ·refine (mul1_any _ _ _ _ _ _ _ (i3.on hb) (i2.on hb) (cs4 k2.num) (cs4 k1.den)).mono ?_;rintro e w' ⟨neg,m,rfl,hi,hb'⟩;exact⟨_,rfl,hb',neg,m,rfl,hi⟩
 ·intro A w1 hA hL hS he;have hb:=hS rfl;obtain⟨v10,h10,f10⟩:=fT 10 (he.1 rfl);obtain⟨v15,h15,f15⟩:=fT 15 (he.2.1 rfl);have hf0:=eF A 108;refine goOn_plain rfl ?_;refine stepG_call (f:=108) (args:=#[v10,v15]) rfl rfl ?_ ?_
  ·exact gZ
  ·obtain⟨n10,m10,rfl,i10⟩:=f10;obtain⟨n15,m15,rfl,i15⟩:=f15;refine (add1_any _ _ _ _ _ _ _ i10 i15 cb1 cb2).mono ?_;rintro e w' ⟨neg,m,rfl,hi,hb'⟩;exact⟨_,rfl,hb',neg,m,rfl,hi⟩
 ·intro A w1 hA hL hS he;refine goOn_plain rfl ?_;refine stepG_box rfl rfl ((Okr.none).lr hL) hL.1.size (by generalize A.eval=ev at *;go_simp) (fun _ _ h=>h)
 ·intro W2 hL2;have hb2:=hL2.below;simp only [TailL,FactL.eq,FactL.int,FactL.box,FactL.of,List.length_cons,List.length_nil,List.drop_succ_cons,List.drop_zero];rintro _ - _ - _ ⟨n16,m16,rfl,i16⟩ v5 ⟨x,-,hBx,rfl,B5⟩;obtain⟨a5,k5,q5,rfl,-,-⟩:=i16.shape;go_frame;have C1:=B1.on hb2;have C2:=B2.on hb2;have C3:=B3.on hb2;have hlt:=B3.lt
  go_upto_region 2 with (refine wpList_store_blk rfl _ (.tmp 5) (.tmp 16) rfl _ _ _ _ rfl rfl B5 rfl sizeInt i16.ones ?_;intro w3 R3 gr3)
  have D1:=C1.grown gr3 (by omega);have D2:=C2.grown gr3 (by omega);have D3:=C3.grown gr3 (by omega);have j16:=i16.stored gr3 B5 (by decide);have j2:=(i2.on hb2).stored gr3 B5 (by decide);have j4:=(i4.on hb2).stored gr3 B5 (by decide);have hb3:Below W.heap.size W w3:=hb2.trans ((grown_below gr3 (Nat.le_of_lt B5.lt) (Nat.le_refl _)).mono (by omega));clear C1 C2 C3 B5 gr3 i16 hb2 hL2;refine wp_region_L mixed (none) (0) (Okr.none) [.eq (.agg #[.bool n16,.slice a5 k5 q5]),.eq (.pointer (some ⟨w.heap.size,2,none⟩)),.eq (.agg #[.bool s2,.slice a2 l2 c2]),.eq (.pointer (some ⟨w.heap.size+1,2,none⟩)),.eq (.agg #[.bool s4,.slice a4 l4 c4]),.int (by decide) (((p.den:Int)*(q.den:Int))),.rat (by decide) ((Rat.divInt (p.num*(q.den:Int)+q.num*(p.den:Int)) ((p.den:Int)*(q.den:Int))))] [17,18,19,20,21,22,23] rfl rfl rfl rfl ⟨?_,?_,?_,?_,?_,?_,?_,trivial⟩ ?_
  ·intro A w1 hA hL hS he;have hb:=hL.below;have h5:A.eval (.tmp 5)=.pointer (some ⟨x,0,none⟩):=hA 5 rfl;have c0:=((R3).on hb).at1 0 _ rfl;have c1:=((R3).on hb).at1 1 _ rfl;exact pZ rfl
  ·intro A w1 hA hL hS he;have h2:A.eval (.tmp 2)=.pointer (some ⟨w.heap.size,0,none⟩):=hA 2 rfl;exact pZ rfl
  ·intro A w1 hA hL hS he;have hb:=hL.below;have h18:=eT 18 (he.1 rfl);have c0:=((D1).on hb).at1 2 _ rfl;have c1:=((D1).on hb).at1 3 _ rfl;exact pZ rfl
  ·intro A w1 hA hL hS he;have h3:A.eval (.tmp 3)=.pointer (some ⟨w.heap.size+1,0,none⟩):=hA 3 rfl;exact pZ rfl
  ·intro A w1 hA hL hS he;have hb:=hL.below;have h20:=eT 20 (he.1 rfl);have c0:=((D2).on hb).at1 2 _ rfl;have c1:=((D2).on hb).at1 3 _ rfl;exact pZ rfl
  ·intro A w1 hA hL hS he;have hb:=hS rfl;have h19:=eT 19 (he.1 rfl);have h21:=eT 21 (he.2.1 rfl);have hf0:=eF A 105;refine goOn_plain rfl ?_;refine stepG_call (f:=105) (args:=#[.agg #[.bool s2,.slice a2 l2 c2],.agg #[.bool s4,.slice a4 l4 c4]]) rfl rfl ?_ ?_
   ·exact gZ
   ·refine (mul1_any _ _ _ _ _ _ _ (j2.on hb) (j4.on hb) (cs4 k1.den) (cs4 k2.den)).mono ?_;rintro e w' ⟨neg,m,rfl,hi,hb'⟩;exact⟨_,rfl,hb',neg,m,rfl,hi⟩
  ·intro A w1 hA hL hS he;have hb:=hS rfl;have h17:=eT 17 (he.1 rfl);obtain⟨v22,h22,f22⟩:=fT 22 (he.2.1 rfl);have hf0:=eF A 107;refine goOn_plain rfl ?_;refine stepG_call (f:=107) (args:=#[.agg #[.bool n16,.slice a5 k5 q5],v22]) rfl rfl ?_ ?_
   ·exact gZ
   ·obtain⟨n22,m22,rfl,i22⟩:=f22;refine (of3_any _ _ _ _ _ _ _ (j16.on hb) i22 sb db dz df).mono ?_;rintro e w' ⟨v,rfl,hi,hb'⟩;exact⟨_,rfl,hb',hi⟩
  ·intro w4 hL4;have hb4:=hL4.below;simp only [TailL,FactL.eq,FactL.int,FactL.rat,FactL.of,List.length_cons,List.length_nil,List.drop_succ_cons,List.drop_zero];rintro _ - v23 h23;obtain⟨t1,b1,g1,d1,t2,b2,g2,d2,rfl,u1,u2⟩:=h23;go_frame;have E3:=D3.on hb4
   go_wp2_with (refine wpList_store_blk rfl _ (.tmp 4) (.tmp 23) rfl _ _ _ _ rfl rfl E3 rfl sizeRat isRat_ones ?_;intro w5 R gr)
   exact ret_blk rfl rfl rfl R Tryz.underlying41 rfl sizeRat (rat_end hb0 (hb3.trans (hb4.mono hb3.size)) (by omega) E3 ⟨_,_,_,_,_,_,_,_,rfl,u1,u2⟩ gr)
theorem mul2_any (v1 v2:Value) (p q:Rat) (w:World) (h1:IsRat w v1 p) (h2:IsRat w v2 q) (k1:Rs p) (k2:Rs q) :
  Calls Tryz.prog 75 #[v1,v2] w (RetRat w (p*q)):=by
 rw [<- divInt_mul];obtain⟨s1,a1,l1,c1,s2,a2,l2,c2,rfl,i1,i2⟩:=h1;obtain⟨s3,a3,l3,c3,s4,a4,l4,c4,rfl,i3,i4⟩:=h2;obtain⟨df,db,dz⟩:=densS k1 k2;have sb:nbits (p.num*q.num).natAbs<=CS / 4:=by have:=nbits_mul p.num.natAbs q.num.natAbs;have:=k1.2;have:=k2.2;rw [Int.natAbs_mul];unfold CS at *;omega
 go_enter Tryz.func75,Tryz.ntmps75
 go_upto_region 1 with (fail)
 refine abs3 fun W hb0 B1 B2 B3 hsz=>?_;replace i1:=i1.on hb0;replace i2:=i2.on hb0;replace i3:=i3.on hb0;replace i4:=i4.on hb0;refine wp_region_L mixed (none) (0) (Okr.none) [.eq (.pointer (some ⟨w.heap.size,0,none⟩)),.eq (.agg #[.bool s1,.slice a1 l1 c1]),.eq (.pointer (some ⟨w.heap.size+1,0,none⟩)),.eq (.agg #[.bool s3,.slice a3 l3 c3]),.int (by decide) ((p.num*q.num)),.eq (.pointer (some ⟨w.heap.size,2,none⟩)),.eq (.agg #[.bool s2,.slice a2 l2 c2]),.eq (.pointer (some ⟨w.heap.size+1,2,none⟩)),.eq (.agg #[.bool s4,.slice a4 l4 c4]),.int (by decide) (((p.den:Int)*(q.den:Int))),.rat (by decide) ((Rat.divInt (p.num*q.num) ((p.den:Int)*(q.den:Int))))] [5,6,7,8,9,10,11,12,13,14,15] rfl rfl rfl rfl ⟨?_,?_,?_,?_,?_,?_,?_,?_,?_,?_,?_,trivial⟩ ?_
 ·intro A w1 hA hL hS he;have h2:A.eval (.tmp 2)=.pointer (some ⟨w.heap.size,0,none⟩):=hA 2 rfl;exact pZ rfl
 ·intro A w1 hA hL hS he;have hb:=hL.below;have h5:=eT 5 (he.1 rfl);have c0:=((B1).on hb).at1 0 _ rfl;have c1:=((B1).on hb).at1 1 _ rfl;exact pZ rfl
 ·intro A w1 hA hL hS he;have h3:A.eval (.tmp 3)=.pointer (some ⟨w.heap.size+1,0,none⟩):=hA 3 rfl;exact pZ rfl
 ·intro A w1 hA hL hS he;have hb:=hL.below;have h7:=eT 7 (he.1 rfl);have c0:=((B2).on hb).at1 0 _ rfl;have c1:=((B2).on hb).at1 1 _ rfl;exact pZ rfl
 ·intro A w1 hA hL hS he;have hb:=hS rfl;have h6:=eT 6 (he.1 rfl);have h8:=eT 8 (he.2.1 rfl);have hf0:=eF A 105;refine goOn_plain rfl ?_;refine stepG_call (f:=105) (args:=#[.agg #[.bool s1,.slice a1 l1 c1],.agg #[.bool s3,.slice a3 l3 c3]]) rfl rfl ?_ ?_
  ·exact gZ
  ·refine (mul1_any _ _ _ _ _ _ _ (i1.on hb) (i3.on hb) (cs4 k1.num) (cs4 k2.num)).mono ?_;rintro e w' ⟨neg,m,rfl,hi,hb'⟩;exact⟨_,rfl,hb',neg,m,rfl,hi⟩
 ·intro A w1 hA hL hS he;have h2:A.eval (.tmp 2)=.pointer (some ⟨w.heap.size,0,none⟩):=hA 2 rfl;exact pZ rfl
 ·intro A w1 hA hL hS he;have hb:=hL.below;have h10:=eT 10 (he.1 rfl);have c0:=((B1).on hb).at1 2 _ rfl;have c1:=((B1).on hb).at1 3 _ rfl;exact pZ rfl
 ·intro A w1 hA hL hS he;have h3:A.eval (.tmp 3)=.pointer (some ⟨w.heap.size+1,0,none⟩):=hA 3 rfl;exact pZ rfl
 ·intro A w1 hA hL hS he;have hb:=hL.below;have h12:=eT 12 (he.1 rfl);have c0:=((B2).on hb).at1 2 _ rfl;have c1:=((B2).on hb).at1 3 _ rfl;exact pZ rfl
 ·intro A w1 hA hL hS he;have hb:=hS rfl;have h11:=eT 11 (he.1 rfl);have h13:=eT 13 (he.2.1 rfl);have hf0:=eF A 105;refine goOn_plain rfl ?_;refine stepG_call (f:=105) (args:=#[.agg #[.bool s2,.slice a2 l2 c2],.agg #[.bool s4,.slice a4 l4 c4]]) rfl rfl ?_ ?_
  ·exact gZ
  ·refine (mul1_any _ _ _ _ _ _ _ (i2.on hb) (i4.on hb) (cs4 k1.den) (cs4 k2.den)).mono ?_;rintro e w' ⟨neg,m,rfl,hi,hb'⟩;exact⟨_,rfl,hb',neg,m,rfl,hi⟩
 ·intro A w1 hA hL hS he;have hb:=hS rfl;obtain⟨v9,h9,f9⟩:=fT 9 (he.1 rfl);obtain⟨v14,h14,f14⟩:=fT 14 (he.2.1 rfl);have hf0:=eF A 107;refine goOn_plain rfl ?_;refine stepG_call (f:=107) (args:=#[v9,v14]) rfl rfl ?_ ?_
  ·exact gZ
  ·obtain⟨n9,m9,rfl,i9⟩:=f9;obtain⟨n14,m14,rfl,i14⟩:=f14;refine (of3_any _ _ _ _ _ _ _ i9 i14 sb db dz df).mono ?_;rintro e w' ⟨v,rfl,hi,hb'⟩;exact⟨_,rfl,hb',hi⟩
 ·intro w4 hL4;have hb4:=hL4.below;simp only [TailL,FactL.eq,FactL.int,FactL.rat,FactL.of,List.length_cons,List.length_nil,List.drop_succ_cons,List.drop_zero];rintro _ - _ - v23 h23;obtain⟨t1,b1,g1,d1,t2,b2,g2,d2,rfl,u1,u2⟩:=h23;go_frame;have E3:=B3.on hb4
  go_wp2_with (refine wpList_store_blk rfl _ (.tmp 4) (.tmp 15) rfl _ _ _ _ rfl rfl E3 rfl sizeRat isRat_ones ?_;intro w5 R gr)
  exact ret_blk rfl rfl rfl R Tryz.underlying41 rfl sizeRat (rat_end hb0 hb4 (by omega) E3 ⟨_,_,_,_,_,_,_,_,rfl,u1,u2⟩ gr)
end Go.Proofs.YtopclbeomcggiaaGreat
end
section
namespace Go.Proofs.YtopclbeomcggiaaGreat
open Go.RowKit Q
theorem rat_same {p q:Rat}:decide (p=q)=(decide (p.num=q.num) && decide ((p.den:Int)=(q.den:Int))):=by
 rw [Bool.eq_iff_iff];simp only [decide_eq_true_eq,Bool.and_eq_true];constructor
 ·rintro rfl;exact⟨rfl,rfl⟩
 ·rintro⟨h1,h2⟩;exact Rat.ext h1 (by omega)
theorem same2_any (v1 v2:Value) (p q:Rat) (w:World) (h1:IsRat w v1 p) (h2:IsRat w v2 q) (k1:Rk p) (k2:Rk q) :
  Calls Tryz.prog 23 #[v1,v2] w (Ret w (.bool (decide (p=q)))):=by
 obtain⟨s1,a1,l1,c1,s2,a2,l2,c2,rfl,i1,i2⟩:=h1;obtain⟨s3,a3,l3,c3,s4,a4,l4,c4,rfl,i3,i4⟩:=h2;have he:=rat_same (p:=p) (q:=q);have HN:=fun W (hb:Below w.heap.size w W)=>same1_any _ _ _ _ _ _ W (i1.on hb) (i3.on hb) k1.num' k2.num';have HD:=fun W (hb:Below w.heap.size w W)=>same1_any _ _ _ _ _ _ W (i2.on hb) (i4.on hb) k1.den' k2.den';generalize decide ((p.den:Int)=(q.den:Int))=dd at *;generalize decide (p.num=q.num)=dn at *;replace he:=zH he
 go_enter Tryz.func23,Tryz.ntmps23
 go_upto_region 1 with (fail)
 refine abs2 fun W hb0 B1 B2 hsz=>?_;cases dn
 ·skip
  refine wp_region_S trivial (none) (0) (Okr.none) [.eq (.pointer (some ⟨w.heap.size,0,none⟩)),.eq (.agg #[.bool s1,.slice a1 l1 c1]),.eq (.pointer (some ⟨w.heap.size+1,0,none⟩)),.eq (.agg #[.bool s3,.slice a3 l3 c3]),.ret (.bool false),.eq (.bool false),.eq undef,.eq undef,.eq undef,.eq undef,.eq undef,.eq (.bool false)] [5,6,7,8,9,10,11,12,13,14,15,16] rfl rfl rfl rfl ⟨?_,?_,?_,?_,?_,?_,?_,?_,?_,?_,?_,?_,trivial⟩ ?_
  ·intro A w1 hA hL hS he;have h2:A.eval (.tmp 2)=.pointer (some ⟨w.heap.size,0,none⟩):=hA 2 rfl;exact pZ rfl
  ·intro A w1 hA hL hS he;have hb:=hL.below;have h5:=eT 5 (he.1 rfl);have c0:=((B1).on hb).at1 0 _ rfl;have c1:=((B1).on hb).at1 1 _ rfl;exact pZ rfl
  ·intro A w1 hA hL hS he;have h3:A.eval (.tmp 3)=.pointer (some ⟨w.heap.size+1,0,none⟩):=hA 3 rfl;exact pZ rfl
  ·intro A w1 hA hL hS he;have hb:=hL.below;have h7:=eT 7 (he.1 rfl);have c0:=((B2).on hb).at1 0 _ rfl;have c1:=((B2).on hb).at1 1 _ rfl;exact pZ rfl
  ·intro A w1 hA hL hS he;have hb:=hS rfl;have h6:=eT 6 (he.1 rfl);have h8:=eT 8 (he.2.1 rfl);have hf0:=eF A 69;refine goOn_plain rfl ?_;refine stepG_call (f:=69) (args:=#[.agg #[.bool s1,.slice a1 l1 c1],.agg #[.bool s3,.slice a3 l3 c3]]) rfl rfl ?_ ?_
   ·exact gZ
   ·refine (HN _ (hb0.trans (hb.mono hb0.size))).mono ?_;rintro e w' ⟨rfl,hb'⟩;exact⟨_,rfl,hb',rfl⟩
  ·exact fun _ _ _ _ _ e=>xM rfl (e.1 rfl)
  ·exact fun _ _ _ _ _ e=>goOn_no (x:=false) rfl rfl (e.1 rfl) rfl rfl
  ·exact fun _ _ _ _ _ e=>goOn_no (x:=false) rfl rfl (e.2.1 rfl) rfl rfl
  ·exact fun _ _ _ _ _ e=>goOn_no (x:=false) rfl rfl (e.1 rfl) rfl rfl
  ·exact fun _ _ _ _ _ e=>goOn_no (x:=false) rfl rfl (e.2.1 rfl) rfl rfl
  ·exact fun _ _ _ _ _ e=>goOn_no (x:=false) rfl rfl (e.2.2.1 rfl) rfl rfl
  ·exact fun _ _ _ _ _ e=>goOn_plain rfl (stepG_pk rfl (e.1 rfl) rfl rfl)
  ·intro W2 hL2;simp only [TailL,FactL.eq,FactL.ret,List.length_cons,List.length_nil,List.drop_succ_cons,List.drop_zero];go_frame;go_wp2;go_ret;exact⟨by rw [he.out] <;> rfl,hb0.trans (hL2.below.mono hb0.size)⟩
 ·skip
  refine wp_region_S trivial (none) (0) (Okr.none) [.eq (.pointer (some ⟨w.heap.size,0,none⟩)),.eq (.agg #[.bool s1,.slice a1 l1 c1]),.eq (.pointer (some ⟨w.heap.size+1,0,none⟩)),.eq (.agg #[.bool s3,.slice a3 l3 c3]),.ret (.bool true),.eq (.bool true),.eq (.pointer (some ⟨w.heap.size,2,none⟩)),.eq (.agg #[.bool s2,.slice a2 l2 c2]),.eq (.pointer (some ⟨w.heap.size+1,2,none⟩)),.eq (.agg #[.bool s4,.slice a4 l4 c4]),.ret (.bool dd),.eq (.bool dd)] [5,6,7,8,9,10,11,12,13,14,15,16] rfl rfl rfl rfl ⟨?_,?_,?_,?_,?_,?_,?_,?_,?_,?_,?_,?_,trivial⟩ ?_
  ·intro A w1 hA hL hS he;have h2:A.eval (.tmp 2)=.pointer (some ⟨w.heap.size,0,none⟩):=hA 2 rfl;exact pZ rfl
  ·intro A w1 hA hL hS he;have hb:=hL.below;have h5:=eT 5 (he.1 rfl);have c0:=((B1).on hb).at1 0 _ rfl;have c1:=((B1).on hb).at1 1 _ rfl;exact pZ rfl
  ·intro A w1 hA hL hS he;have h3:A.eval (.tmp 3)=.pointer (some ⟨w.heap.size+1,0,none⟩):=hA 3 rfl;exact pZ rfl
  ·intro A w1 hA hL hS he;have hb:=hL.below;have h7:=eT 7 (he.1 rfl);have c0:=((B2).on hb).at1 0 _ rfl;have c1:=((B2).on hb).at1 1 _ rfl;exact pZ rfl
  ·intro A w1 hA hL hS he;have hb:=hS rfl;have h6:=eT 6 (he.1 rfl);have h8:=eT 8 (he.2.1 rfl);have hf0:=eF A 69;refine goOn_plain rfl ?_;refine stepG_call (f:=69) (args:=#[.agg #[.bool s1,.slice a1 l1 c1],.agg #[.bool s3,.slice a3 l3 c3]]) rfl rfl ?_ ?_
   ·exact gZ
   ·refine (HN _ (hb0.trans (hb.mono hb0.size))).mono ?_;rintro e w' ⟨rfl,hb'⟩;exact⟨_,rfl,hb',rfl⟩
  ·exact fun _ _ _ _ _ e=>xM rfl (e.1 rfl)
  ·intro A w1 hA hL hS he;have h10:=eT 10 (he.1 rfl);have h2:A.eval (.tmp 2)=.pointer (some ⟨w.heap.size,0,none⟩):=hA 2 rfl;exact yZ h10 rfl
  ·intro A w1 hA hL hS he;have hb:=hL.below;have h10:=eT 10 (he.2.1 rfl);have h11:=eT 11 (he.1 rfl);have c0:=((B1).on hb).at1 2 _ rfl;have c1:=((B1).on hb).at1 3 _ rfl;exact yZ h10 rfl
  ·intro A w1 hA hL hS he;have h10:=eT 10 (he.1 rfl);have h3:A.eval (.tmp 3)=.pointer (some ⟨w.heap.size+1,0,none⟩):=hA 3 rfl;exact yZ h10 rfl
  ·intro A w1 hA hL hS he;have hb:=hL.below;have h10:=eT 10 (he.2.1 rfl);have h13:=eT 13 (he.1 rfl);have c0:=((B2).on hb).at1 2 _ rfl;have c1:=((B2).on hb).at1 3 _ rfl;exact yZ h10 rfl
  ·intro A w1 hA hL hS he;have hb:=hS rfl;have h10:=eT 10 (he.2.2.1 rfl);have h12:=eT 12 (he.1 rfl);have h14:=eT 14 (he.2.1 rfl);have hf0:=eF A 69;refine goOn_yes rfl rfl h10 ?_;refine stepG_call (f:=69) (args:=#[.agg #[.bool s2,.slice a2 l2 c2],.agg #[.bool s4,.slice a4 l4 c4]]) rfl rfl ?_ ?_
   ·exact gZ
   ·refine (HD _ (hb0.trans (hb.mono hb0.size))).mono ?_;rintro e w' ⟨rfl,hb'⟩;exact⟨_,rfl,hb',rfl⟩
  ·exact fun _ _ _ _ _ e=>goOn_plain rfl (stepG_pk rfl (e.1 rfl) rfl (e.2.1 rfl))
  ·intro W2 hL2;simp only [TailL,FactL.eq,FactL.ret,List.length_cons,List.length_nil,List.drop_succ_cons,List.drop_zero];go_frame;go_wp2;go_ret;exact⟨by rw [he.out] <;> rfl,hb0.trans (hL2.below.mono hb0.size)⟩
theorem Ex.gt_at {e f:Ex} {i:Nat} (hi:i<4) (h:∀ j,i<j->j<4->e.get j=f.get j) (hne:e.get i≠f.get i):e.gt f=decide (f.get i<e.get i):=by
 obtain⟨a,b,c,d⟩:=e;obtain⟨a',b',c',d'⟩:=f;have h1:=h 1;have h2:=h 2;have h3:=h 3;rw [Bool.eq_iff_iff,Ex.gt_iff,decide_eq_true_iff];obtain rfl|rfl|rfl|rfl:i=0\/i=1\/i=2\/i=3:=by omega
 all_goals simp [Ex.get] at *
 all_goals omega
theorem Ex.eq_get {e f:Ex} (h:∀ j,j<4->e.get j=f.get j):e=f :=
 Ex.ext' (h 0 (by omega)) (h 1 (by omega)) (h 2 (by omega)) (h 3 (by omega))
theorem greater_any (e f:Ex) (w:World):Calls Tryz.prog 68 #[.agg (exC e).toArray,.agg (exC f).toArray] w (Ret w (.bool (e.gt f))):=by
 have hg0:=fun i hi h hne=>Ex.gt_at (e:=e) (f:=f) (i:=i) hi h hne;have hg1:(∀ j,j<4->e.get j=f.get j)->e.gt f=false:=fun h=>by rw [Ex.eq_get h];exact Ex.gt_irrefl _
 have hc1:=fun k hk=>exC_get e k hk;have hc2:=fun k hk=>exC_get f k hk;generalize e.gt f=R at *;obtain⟨x1,x2,x3,x4⟩:=e;obtain⟨y1,y2,y3,y4⟩:=f;simp only [exC] at hc1 hc2 ⊢;replace hg0:=zH hg0;replace hg1:=zH hg1
 go_enter Tryz.func68,Tryz.ntmps68
 go_upto_region 1 with (fail)
 refine abs2 fun W hb0 B1 B2 hsz=>?_;go_wp2
 go_loopw [5] (fun i wr=>∃ k:Nat,k<=4/\i=.int .i64 ((k:Int)-1)/\Hid (∀ j,k<=j->j<4->Ex.get (x1,x2,x3,x4) j=Ex.get (y1,y2,y3,y4) j)/\Below W.heap.size W wr) (fun i _=>(intOf i+1).toNat)
 case atStart=>exact⟨4,by omega,rfl,zH (fun j h1 h2=>by omega),Below.refl _ _⟩
 case round =>
  obtain⟨k,hk,rfl,hd,hbr⟩:=hrel;by_cases h0:1<=k
  ·obtain⟨i,rfl⟩:∃ i,k=i+1:=⟨k - 1,by omega⟩;have hi4:i<4:=by omega
   have hi4':(i:Int)<4:=by omega
   have hx:=hc1 i hi4;have hy:=hc2 i hi4;have hst:=hg0.out i hi4 (fun j h1 h2=>hd.out j h1 h2)
   have hde:Ex.get (x1,x2,x3,x4) i=Ex.get (y1,y2,y3,y4) i->∀ j,i<=j->j<4->Ex.get (x1,x2,x3,x4) j=Ex.get (y1,y2,y3,y4) j:=fun h j h1 h2=>by
    rcases Nat.eq_or_lt_of_le h1 with h'|h'
    ·rw [<- h'];exact h
    ·exact hd.out j h' h2
   replace hde:=zH hde;have HX:Hid (∃ x,x=Ex.get (x1,x2,x3,x4) i):=⟨_,rfl⟩;obtain⟨x,ex⟩:=HX.out;have HY:Hid (∃ y,y=Ex.get (y1,y2,y3,y4) i):=⟨_,rfl⟩;obtain⟨y,ey⟩:=HY.out;rw [<- ex] at hx hst;rw [<- ey] at hy hst;replace ex:=zH ex;replace ey:=zH ey;clear hd HX HY;have hi1:(((i+1:Nat):Int) - 1)=(i:Int):=by omega
   rw [hi1];have f1:∀ W',Below W.heap.size W W'->W'.cell? ⟨w.heap.size,i,none⟩=some (.int .i64 x):=fun W' hb=>(B1.on hb).at1 i _ hx;have f2:∀ W',Below W.heap.size W W'->W'.cell? ⟨w.heap.size+1,i,none⟩=some (.int .i64 y):=fun W' hb=>(B2.on hb).at1 i _ hy;clear hx hy
   go_upto_region 4 with (fail)
   refine wp_region_L mixed (none) (0) (Okr.none) [.eq (.int .i64 i),.eq (.pointer (some ⟨w.heap.size,i,none⟩)),.eq (.int .i64 x),.eq (.int .i64 i),.eq (.pointer (some ⟨w.heap.size+1,i,none⟩)),.eq (.int .i64 y),.eq (.bool (x != y))] [10,11,12,13,14,15,16] rfl rfl rfl rfl ⟨?_,?_,?_,?_,?_,?_,?_,trivial⟩ ?_
   ·exact fun _ _ a _ _ _=>xM rfl (a 5 rfl)
   ·intro A w1 hA hL hS he;have h2:A.eval (.tmp 2)=.pointer (some ⟨w.heap.size,0,none⟩):=hA 2 rfl;have h10:=eT 10 (he.1 rfl);exact pZ rfl
   ·intro A w1 hA hL hS he;have h11:=eT 11 (he.1 rfl);refine goOn_plain rfl ?_;have c0:=f1 w1 (hbr.trans (hL.below.mono hbr.size));exact stepG_pure rfl rfl gZ
   ·exact fun _ _ a _ _ _=>xM rfl (a 5 rfl)
   ·intro A w1 hA hL hS he;have h3:A.eval (.tmp 3)=.pointer (some ⟨w.heap.size+1,0,none⟩):=hA 3 rfl;have h13:=eT 13 (he.1 rfl);exact pZ rfl
   ·intro A w1 hA hL hS he;have h14:=eT 14 (he.1 rfl);refine goOn_plain rfl ?_;have c0:=f2 w1 (hbr.trans (hL.below.mono hbr.size));exact stepG_pure rfl rfl gZ
   ·intro A w1 hA hL hS he;have h12:=eT 12 (he.1 rfl);have h15:=eT 15 (he.2.1 rfl);exact pZ rfl
   ·intro W2 hL2;simp only [TailL,FactL.eq,List.length_cons,List.length_nil,List.drop_succ_cons,List.drop_zero];go_frame;have hb2:=hbr.trans (hL2.below.mono hbr.size);by_cases hxy:x=y
    ·have HD:=zH (hde.out (by rw [<- ex.out,<- ey.out];exact hxy));have hxb:(x != y)=false:=by simp [hxy]
     rw [hxb];clear f1 f2;go_wp2;go_roundw
     case rel=>exact⟨i,by omega,by go_num,HD,hb2⟩
     case measure=>simp [intOf]
    ·have HR:=zH (hst hxy);have hxb:(x != y)=true:=by simp [hxy]
     rw [hxb]
     go_upto_region 5 with (fail)
     refine wp_region_L mixed (none) (0) (Okr.none) [.eq (.int .i64 i),.eq (.pointer (some ⟨w.heap.size,i,none⟩)),.eq (.int .i64 x),.eq (.int .i64 i),.eq (.pointer (some ⟨w.heap.size+1,i,none⟩)),.eq (.int .i64 y),.eq (.bool (decide (y<x)))] [17,18,19,20,21,22,23] rfl rfl rfl rfl ⟨?_,?_,?_,?_,?_,?_,?_,trivial⟩ ?_
     ·exact fun _ _ a _ _ _=>xM rfl (a 5 rfl)
     ·intro A w1 hA hL hS he;have h2:A.eval (.tmp 2)=.pointer (some ⟨w.heap.size,0,none⟩):=hA 2 rfl;have h17:=eT 17 (he.1 rfl);exact pZ rfl
     ·intro A w1 hA hL hS he;have h18:=eT 18 (he.1 rfl);refine goOn_plain rfl ?_;have c0:=f1 w1 (hb2.trans (hL.below.mono hb2.size));exact stepG_pure rfl rfl gZ
     ·exact fun _ _ a _ _ _=>xM rfl (a 5 rfl)
     ·intro A w1 hA hL hS he;have h3:A.eval (.tmp 3)=.pointer (some ⟨w.heap.size+1,0,none⟩):=hA 3 rfl;have h20:=eT 20 (he.1 rfl);exact pZ rfl
     ·intro A w1 hA hL hS he;have h21:=eT 21 (he.1 rfl);refine goOn_plain rfl ?_;have c0:=f2 w1 (hb2.trans (hL.below.mono hb2.size));exact stepG_pure rfl rfl gZ
     ·intro A w1 hA hL hS he;have h19:=eT 19 (he.1 rfl);have h22:=eT 22 (he.2.1 rfl);exact pZ rfl
     ·intro W3 hL3;simp only [TailL,FactL.eq,List.length_cons,List.length_nil,List.drop_succ_cons,List.drop_zero];go_frame;go_wp2;go_ret;exact⟨by rw [HR.out] <;> rfl,hb0.trans ((hb2.trans (hL3.below.mono hb2.size)).mono hb0.size)⟩
  ·obtain rfl:k=0:=by omega
   have HD:=zH (hg1.out (fun j hj=>hd.out j (by omega) hj));go_wp2;go_ret;exact⟨by rw [HD.out] <;> rfl,hb0.trans (hbr.mono hb0.size)⟩
theorem natural7_any (e:Ex) (w:World):Calls Tryz.prog 65 #[.agg (exC e).toArray] w (Ret w (.bool e.nat)):=by
 obtain⟨x1,x2,x3,x4⟩:=e
 have hR:Ex.nat (x1,x2,x3,x4)=(decide (0<=x1) && decide (0<=x2) && decide (0<=x3) && decide (0<=x4)):=by
  rw [Bool.eq_iff_iff,Ex.nat_iff];simp [Bool.and_eq_true,and_assoc]
 generalize Ex.nat (x1,x2,x3,x4)=R at *;replace hR:=zH hR;simp only [exC]
 go_enter Tryz.func65,Tryz.ntmps65
 go_upto_region 1 with (fail)
 refine abs1 fun W hb0 B hsz=>?_;have e1:=B.at1 0 _ rfl;have e2:=B.at1 1 _ rfl;have e3:=B.at1 2 _ rfl;have e4:=B.at1 3 _ rfl;by_cases h1:0<=x1
 ·by_cases h2:0<=x2
  ·by_cases h3:0<=x3
   ·by_cases h4:0<=x4
    ·have HE:Hid (R=true):=zH (by rw [hR.out];simp [h1,h2,h3,h4]);go_wp2;go_ret;exact⟨by rw [HE.out] <;> rfl,hb0⟩
    ·have HE:Hid (R=false):=zH (by rw [hR.out];simp [h4]);go_wp2;go_ret;exact⟨by rw [HE.out] <;> rfl,hb0⟩
   ·have HE:Hid (R=false):=zH (by rw [hR.out];simp [h3]);go_wp2;go_ret;exact⟨by rw [HE.out] <;> rfl,hb0⟩
  ·have HE:Hid (R=false):=zH (by rw [hR.out];simp [h2]);go_wp2;go_ret;exact⟨by rw [HE.out] <;> rfl,hb0⟩
 ·have HE:Hid (R=false):=zH (by rw [hR.out];simp [h1]);go_wp2;go_ret;exact⟨by rw [HE.out] <;> rfl,hb0⟩
end Go.Proofs.YtopclbeomcggiaaGreat
end
section
namespace Q
def insT (n:Trm) (r:List Trm):List Trm:=if n.2≠0/\n.1.nat=true then n::r else r
theorem ins_skip {m:Trm}:∀ {k:Nat} {p:List Trm},(∀ t∈p.take k,t.1.gt m.1=true)->ins p m=p.take k++ins (p.drop k) m
|0,p,_=>by simp
|k+1,[],_=>by simp
|k+1,t::p,h=>by
  have h1:=h t (by simp);have h2:=ins_skip (m:=m) (k:=k) (p:=p) (fun s hs=>h s (by simp [hs]));rw [List.take_succ_cons,List.drop_succ_cons,ins,if_pos h1,h2];rfl
theorem ins_nil' (m:Trm):ins [] m=insT m []:=rfl
theorem ins_eq' {t m:Trm} {r:List Trm} (h:t.1=m.1):ins (t::r) m=insT (m.1,m.2+t.2) r:=by
 rw [ins,if_neg (by rw [h,Ex.gt_irrefl];simp),if_pos h];rfl
theorem ins_ne' {t m:Trm} {r:List Trm} (hg:t.1.gt m.1=false) (h:t.1≠m.1):ins (t::r) m=insT m (t::r):=by
 rw [ins,if_neg (by rw [hg];simp),if_neg h];rfl
end Q
namespace Go.Proofs.YtopclbeomcggiaaGreat
open Go.RowKit Q
theorem eq_ex (e f:Ex) (w:World):(Op.equalIn 10000 36 (.agg (exC e).toArray) (.agg (exC f).toArray)).run Tryz.prog w=.ok (decide (e=f)) w:=by
 obtain⟨x1,x2,x3,x4⟩:=e;obtain⟨y1,y2,y3,y4⟩:=f;simp only [exC];have u3:=Tryz.underlying3;have a3:=Tryz.isAgg3;have z3:=Tryz.sizeOf3;rw [show (10000:Nat)=9999+1 from rfl,Op.equalIn];simp only [Sem.run_bind,run_underlying Tryz.underlying36,Result.andThen_ok];simp only [Std.Legacy.Range.forIn_eq_forIn_range',Std.Legacy.Range.size,Nat.sub_zero,Nat.add_sub_cancel,Nat.div_one,List.range'_succ,List.range'_zero,List.forIn_cons,List.forIn_nil];go_simp;by_cases h1:x1=y1 <;> by_cases h2:x2=y2 <;> by_cases h3:x3=y3 <;> by_cases h4:x4=y4 <;> simp [h1,h2,h3,h4]
theorem blk_ex {w:World} {b:Nat} {e:Ex} {r:List Value} (h:Blk w b monoT (exC e++r)):w.rangeAt b 0 (exC e):=cells_ex h.cells
theorem blk_rat {w:World} {b:Nat} {e:Ex} {r:List Value} (h:Blk w b monoT (exC e++r)):w.rangeAt b (0+4) r:=cells_rat h.cells
end Go.Proofs.YtopclbeomcggiaaGreat
namespace Q
open Go Go.RowKit Q Go.Proofs.YtopclbeomcggiaaGreat
theorem OwnSl.rebase {α:Type} {e:El α} {base:Nat} {w:World} {v:Value} {l:List α} (h:OwnSl e base w v l):OwnSl e 0 w v l:=by
 obtain⟨xs,⟨h1,h2⟩,h3⟩:=h;refine⟨xs,⟨h1,?_⟩,h3⟩;rcases h2 with h2|⟨g,cap,cur,h4,h5,h6⟩
 ·exact .inl h2
 ·exact .inr ⟨g,cap,cur,h4,Nat.zero_le _,h6⟩
end Q
namespace Go.Proofs.YtopclbeomcggiaaGreat
open Go.RowKit Q
theorem insert_any (vp:Value) (p:List Trm) (cs:List Value) (m:Trm) (w:World) (hp:IsPoly w vp p) (hm:IsTerm w cs m) (hkp:∀ t∈p,Rs t.2) (hkm:Rs m.2) (hpl:p.length<=100000000) :
  Calls Tryz.prog 82 #[vp,.agg cs.toArray] w (RetPoly w (ins p m)):=by
 obtain⟨ap,cp,rfl,hcp⟩:=hp.shape;obtain⟨r,rfl,hr⟩:=hm;obtain⟨e,q⟩:=m;simp only at hr hkm ⊢;replace hkp:=zH hkp;obtain⟨RES,hRES⟩:∃ RES,RES=ins p (e,q):=⟨_,rfl⟩;rw [<- hRES];replace hRES:=zH hRES;have h4:=hr.len
 go_enter Tryz.func82,Tryz.ntmps82
 go_upto_region 1 with (fail)
 refine abs1 fun W hb0 B hsz=>?_;go_wp2
 go_loopw [5] (fun i wr=>∃ k:Nat,k<=p.length/\i=.int .i64 k/\Hid (∀ t∈p.take k,t.1.gt e=true)/\Below w.heap.size w wr/\Hid (Blk wr w.heap.size monoT (exC e++r))) (fun i _=>p.length-(intOf i).toNat)
 case atStart=>exact⟨0,by omega,rfl,zH (by simp),hb0,zH B⟩
 case round =>
  clear hb0 B hsz;obtain⟨k,hk,rfl,hpre,hbr,hB⟩:=hrel;have BB:=hB.out;obtain⟨g,hgd⟩:∃ g:Bool,g=(match p[k]? with|some t=>t.1.gt e|none=>false):=⟨_,rfl⟩
  go_upto_region 2 with (fail)
  go_cut [8,9,10,11,12,13,14,15,16,17,18,19,20,21] (fun _ _ _ _ _ _ _ _ _ _ _ _ _ v21 wc=>v21=.bool g/\Below wr.heap.size wr wc)
  case first =>
   by_cases hkl:k<p.length
   ·have hjq:p[k]?=some p[k]:=List.getElem?_eq_getElem hkl;rw [hjq] at hgd;generalize p[k]=t at hjq hgd;obtain⟨bp,op,csp,rfl,-,hE,hC⟩:=(hp.on hbr).get hjq;obtain⟨rt,rfl,hrt⟩:=hE;change Cells monoT wr bp (op+k*8) _ at hC;have hkl':(k:Int)<p.length:=by omega
    simp only at hgd;refine wp_region_L mixed (none) (0) (Okr.none) [.eq (.int .i64 k),.eq (.slice (some ⟨bp,op,none⟩) p.length cp),.eq (.int .i64 p.length),.eq (.bool true),.eq (.bool true),.eq (.slice (some ⟨bp,op,none⟩) p.length cp),.eq (.int .i64 k),.eq (.pointer (some ⟨bp,op+k*8,none⟩)),.eq (.pointer (some ⟨bp,op+k*8,none⟩)),.eq (.agg (exC t.1).toArray),.eq (.pointer (some ⟨w.heap.size,0,none⟩)),.eq (.agg (exC e).toArray),.ret (.bool (t.1.gt e)),.eq (.bool (t.1.gt e))] [8,9,10,11,12,13,14,15,16,17,18,19,20,21] rfl rfl rfl rfl ⟨?_,?_,?_,?_,?_,?_,?_,?_,?_,?_,?_,?_,?_,?_,trivial⟩ ?_
    ·exact fun _ _ a _ _ _=>xM rfl (a 5 rfl)
    ·exact fun _ _ a _ _ _=>xM rfl (a 0 rfl)
    ·intro A w1 hA hL hS he;have h9:=eT 9 (he.1 rfl);exact pZ rfl
    ·intro A w1 hA hL hS he;have h8:=eT 8 (he.1 rfl);have h10:=eT 10 (he.2.1 rfl);exact pZ rfl
    ·exact fun _ _ _ _ _ e=>xM rfl (e.1 rfl)
    ·exact fun _ _ a _ _ e=>yM (e.1 rfl) rfl (a 0 rfl)
    ·exact fun _ _ a _ _ e=>yM (e.1 rfl) rfl (a 5 rfl)
    ·exact fun _ _ _ _ _ e=>goOn_yes rfl rfl (e.2.2.1 rfl) (xI rfl Tryz.underlying27 bp op k (hkl) (e.1 rfl) (e.2.1 rfl))
    ·exact fun _ _ _ _ _ e=>goOn_yes rfl rfl (e.2.1 rfl) (xF0 rfl (e.1 rfl))
    ·exact fun _ _ _ hL _ e=>goOn_yes rfl rfl (e.2.1 rfl) (xL rfl (cells_ex (hC.on hL.below)) Tryz.underlying36 (show (exC t.1).length=4 from rfl) (e.1 rfl))
    ·exact fun _ _ a _ _ e=>goOn_yes rfl rfl (e.1 rfl) (xF0 rfl (a 3 rfl))
    ·exact fun A w1 hA hL hS he=>goOn_yes rfl rfl (he.2.1 rfl) (xL rfl (blk_ex (BB.on hL.below)) Tryz.underlying36 (show (exC e).length=4 from rfl) (he.1 rfl))
    ·intro A w1 hA hL hS he;have hb:=hS rfl;have h12:=eT 12 (he.2.2.1 rfl);have h17:=eT 17 (he.1 rfl);have h19:=eT 19 (he.2.1 rfl);have hf0:=eF A 68;refine goOn_yes rfl rfl h12 ?_;refine stepG_call (f:=68) (args:=#[.agg (exC t.1).toArray,.agg (exC e).toArray]) rfl rfl ?_ ?_
     ·exact gZ
     ·refine (greater_any t.1 e _).mono ?_;rintro e w' ⟨rfl,hb'⟩;exact⟨_,rfl,hb',rfl⟩
    ·exact fun _ _ _ _ _ e=>goOn_plain rfl (stepG_pk rfl (e.1 rfl) rfl (e.2.1 rfl))
    ·intro W2 hL2;simp only [TailL,FactL.eq,FactL.ret,List.length_cons,List.length_nil,List.drop_succ_cons,List.drop_zero];go_frame;go_wp2;go_meet
     case rel=>exact⟨by rw [hgd],hL2.below⟩
   ·rw [List.getElem?_eq_none (by omega)] at hgd;obtain rfl:k=p.length:=by omega
    refine wp_region_L mixed (none) (0) (Okr.none) [.eq (.int .i64 p.length),.eq (.slice ap p.length cp),.eq (.int .i64 p.length),.eq (.bool false),.eq (.bool false),.eq undef,.eq undef,.eq undef,.eq undef,.eq undef,.eq undef,.eq undef,.eq undef,.eq (.bool false)] [8,9,10,11,12,13,14,15,16,17,18,19,20,21] rfl rfl rfl rfl ⟨?_,?_,?_,?_,?_,?_,?_,?_,?_,?_,?_,?_,?_,?_,trivial⟩ ?_
    ·exact fun _ _ a _ _ _=>xM rfl (a 5 rfl)
    ·exact fun _ _ a _ _ _=>xM rfl (a 0 rfl)
    ·intro A w1 hA hL hS he;have h9:=eT 9 (he.1 rfl);exact pZ rfl
    ·intro A w1 hA hL hS he;have h8:=eT 8 (he.1 rfl);have h10:=eT 10 (he.2.1 rfl);exact pZ rfl
    ·exact fun _ _ _ _ _ e=>xM rfl (e.1 rfl)
    ·exact fun _ _ _ _ _ e=>goOn_no (x:=false) rfl rfl (e.1 rfl) rfl rfl
    ·exact fun _ _ _ _ _ e=>goOn_no (x:=false) rfl rfl (e.1 rfl) rfl rfl
    ·exact fun _ _ _ _ _ e=>goOn_no (x:=false) rfl rfl (e.2.2.1 rfl) rfl rfl
    ·exact fun _ _ _ _ _ e=>goOn_no (x:=false) rfl rfl (e.2.1 rfl) rfl rfl
    ·exact fun _ _ _ _ _ e=>goOn_no (x:=false) rfl rfl (e.2.1 rfl) rfl rfl
    ·exact fun _ _ _ _ _ e=>goOn_no (x:=false) rfl rfl (e.1 rfl) rfl rfl
    ·exact fun _ _ _ _ _ e=>goOn_no (x:=false) rfl rfl (e.2.1 rfl) rfl rfl
    ·exact fun _ _ _ _ _ e=>goOn_no (x:=false) rfl rfl (e.2.2.1 rfl) rfl rfl
    ·exact fun _ _ _ _ _ e=>goOn_plain rfl (stepG_pk rfl (e.1 rfl) rfl rfl)
    ·intro W2 hL2;simp only [TailL,FactL.eq,FactL.ret,List.length_cons,List.length_nil,List.drop_succ_cons,List.drop_zero];go_frame;go_wp2;go_meet
     case rel=>exact⟨by rw [hgd],hL2.below⟩
  case rest =>
   obtain⟨rfl,hbc⟩:=hcut;replace hbr:=hbr.trans (hbc.mono hbr.size);replace BB:=BB.on hbc;replace hr:=hr.on hbr;clear hB hbc
   have hgt:g=true->k<p.length/\∀ t∈p.take (k+1),t.1.gt e=true:=fun h=>by
    rw [h] at hgd;split at hgd
    ·rename_i t ht;have hkl:=(List.getElem?_eq_some_iff.1 ht).1;refine⟨hkl,fun s hs=>?_⟩;rw [List.take_add_one,ht] at hs;rcases List.mem_append.1 hs with hs|hs
     ·exact hpre.out s hs
     ·simp at hs;subst hs;exact hgd.symm
    ·cases hgd
   have hgf:g=false->∀ t rest,p.drop k=t::rest->t.1.gt e=false:=fun h t rest hd=>by
    have ht:=(drop_cons' hd).2.1;rw [h,ht] at hgd;exact hgd.symm
   replace hgt:=zH hgt;replace hgf:=zH hgf;clear hgd;cases g
   ·have hins:=ins_skip (m:=(e,q)) (k:=k) (p:=p) hpre.out;replace hins:=zH hins;clear hpre hgt;have hP:=hp.on hbr;have hPt:=hP.take k hk;have hPd:=hp.drop k;change IsPoly w (.slice (if cp=k then ap else ap.map (·.add (k*8))) _ _) _ at hPd;have hsli:=fun W':World=>run_slice_high (P:=Tryz.prog) Tryz.underlying27 info37 W' ap p.length cp k .i64 (k:Int) rfl (by omega);have hslo:=fun W':World=>run_slice_low (P:=Tryz.prog) Tryz.underlying27 info37 W' ap p.length cp k .i64 (k:Int) rfl hk hcp;obtain⟨vr,hvr⟩:∃ vr:Value,vr=.slice (if cp=k then ap else ap.map (·.add (k*8))) (p.length - k) (cp - k):=⟨_,rfl⟩;rw [<- hvr] at hslo hPd;have hba:Below wc.heap.size wc (wc.alloc (.cells #[] monoT)):=(Below.refl _ _).alloc (Nat.le_refl _) _;have hlk:([]:List Trm).length+(p.take k).length<=1000000000:=by simp;omega
    have hPta:=hPt.on hba;have hmb:w.heap.size<wc.heap.size:=BB.lt;replace hvr:=zH hvr
    go_upto_region 5 with (first
    |(at_builtin;refine wpList_app rfl _ _ 27 rfl Tryz.underlying27 info_elTerm rfl rfl (own_lit0 elTerm wc) hPta hlk hba.size ?_;intro v6 w6 hown6 hl6 hv6))
    rw [List.nil_append] at hown6;have hb6:Below wc.heap.size wc w6:=hba.trans (hl6.belowAt hba.size (fun k hk=>by cases hk;exact Nat.le_refl _));have BB6:=BB.on hb6;have hP6:=hPd;replace hr:=hr.on hb6;replace hbr:=hbr.trans (hb6.mono hbr.size);clear hP hPt hPta hPd hl6 hv6 hba hlk BB hsli
    go_upto_region 6 with (fail)
    clear hslo;have hqs:∀ t∈p.drop k,Rs t.2:=fun t ht=>hkp.out t (List.mem_of_mem_drop ht);have hdl:(p.drop k).length<=p.length:=by simp
    generalize wc.heap.size=base at *;obtain⟨ar,cr,hsh,hcr⟩:=hP6.shape;subst hsh;generalize p.drop k=P at *;obtain⟨g2,hg2⟩:∃ g:Bool,g=(match P with|t::_=>decide (t.1=e)|[]=>false):=⟨_,rfl⟩
    go_cut [32,33,34,35,36,37,38,39,40,41,42,43] (fun _ _ _ _ _ _ _ _ _ _ _ v43 wc=>v43=.bool g2/\Below w6.heap.size w6 wc)
    case first =>
     cases P with
    |nil =>
      simp only [List.length_nil];refine wp_region_L mixed (none) (0) (Okr.none) [.eq (.slice ar 0 cr),.eq (.int .i64 0),.eq (.bool false),.eq (.bool false),.eq undef,.eq undef,.eq undef,.eq undef,.eq undef,.eq undef,.eq undef,.eq (.bool false)] [32,33,34,35,36,37,38,39,40,41,42,43] rfl rfl rfl rfl ⟨?_,?_,?_,?_,?_,?_,?_,?_,?_,?_,?_,?_,trivial⟩ ?_
      ·exact fun _ _ a _ _ _=>xM rfl (a 7 rfl)
      ·intro A w1 hA hL hS he;have h32:=eT 32 (he.1 rfl);exact pZ rfl
      ·intro A w1 hA hL hS he;have h33:=eT 33 (he.1 rfl);have hc0:=eC A (.int .i64 0);exact pZ rfl
      ·exact fun _ _ _ _ _ e=>xM rfl (e.1 rfl)
      ·exact fun _ _ _ _ _ e=>goOn_no (x:=false) rfl rfl (e.1 rfl) rfl rfl
      ·exact fun _ _ _ _ _ e=>goOn_no (x:=false) rfl rfl (e.2.1 rfl) rfl rfl
      ·exact fun _ _ _ _ _ e=>goOn_no (x:=false) rfl rfl (e.2.1 rfl) rfl rfl
      ·exact fun _ _ _ _ _ e=>goOn_no (x:=false) rfl rfl (e.2.1 rfl) rfl rfl
      ·exact fun _ _ _ _ _ e=>goOn_no (x:=false) rfl rfl (e.1 rfl) rfl rfl
      ·exact fun _ _ _ _ _ e=>goOn_no (x:=false) rfl rfl (e.2.1 rfl) rfl rfl
      ·exact fun _ _ _ _ _ e=>goOn_no (x:=false) rfl rfl (e.2.2.1 rfl) rfl rfl
      ·exact fun _ _ _ _ _ e=>goOn_plain rfl (stepG_pk rfl (e.1 rfl) rfl rfl)
      ·intro W2 hL2;simp only [TailL,FactL.eq,FactL.ret,List.length_cons,List.length_nil,List.drop_succ_cons,List.drop_zero];go_frame;go_wp2;go_meet
       case rel=>exact⟨by rw [hg2],hL2.below⟩
    |cons t P2 =>
      obtain⟨bp,op,csp,rfl,-,hE,hC⟩:=hP6.get (j:=0) (t:=t) rfl;obtain⟨rt,rfl,hrt⟩:=hE;change Cells monoT w bp (op+0*8) _ at hC;simp only [List.length_cons] at hg2 ⊢;have heq:=fun W'=>eq_ex t.1 e W';refine wp_region_L mixed (none) (0) (Okr.none) [.eq (.slice (some ⟨bp,op,none⟩) (P2.length+1) cr),.eq (.int .i64 (P2.length+1:Nat)),.eq (.bool true),.eq (.bool true),.eq (.slice (some ⟨bp,op,none⟩) (P2.length+1) cr),.eq (.pointer (some ⟨bp,op+0*8,none⟩)),.eq (.pointer (some ⟨bp,op+0*8,none⟩)),.eq (.agg (exC t.1).toArray),.eq (.pointer (some ⟨w.heap.size,0,none⟩)),.eq (.agg (exC e).toArray),.eq (.bool (decide (t.1=e))),.eq (.bool (decide (t.1=e)))] [32,33,34,35,36,37,38,39,40,41,42,43] rfl rfl rfl rfl ⟨?_,?_,?_,?_,?_,?_,?_,?_,?_,?_,?_,?_,trivial⟩ ?_
      ·exact fun _ _ a _ _ _=>xM rfl (a 7 rfl)
      ·intro A w1 hA hL hS he;have h32:=eT 32 (he.1 rfl);exact pZ rfl
      ·intro A w1 hA hL hS he;have h33:=eT 33 (he.1 rfl);have hc0:=eC A (.int .i64 0);exact pZ rfl
      ·exact fun _ _ _ _ _ e=>xM rfl (e.1 rfl)
      ·exact fun _ _ a _ _ e=>yM (e.1 rfl) rfl (a 7 rfl)
      ·exact fun _ _ _ _ _ e=>goOn_yes rfl rfl (e.2.1 rfl) (xI rfl Tryz.underlying27 bp op 0 (by omega) (e.1 rfl) rfl)
      ·exact fun _ _ _ _ _ e=>goOn_yes rfl rfl (e.2.1 rfl) (xF0 rfl (e.1 rfl))
      ·exact fun _ _ _ hL _ e=>goOn_yes rfl rfl (e.2.1 rfl) (xL rfl (cells_ex (hC.on (hbr.trans (hL.below.mono hbr.size)))) Tryz.underlying36 (show (exC t.1).length=4 from rfl) (e.1 rfl))
      ·exact fun _ _ a _ _ e=>goOn_yes rfl rfl (e.1 rfl) (xF0 rfl (a 3 rfl))
      ·exact fun A w1 hA hL hS he=>goOn_yes rfl rfl (he.2.1 rfl) (xL rfl (blk_ex (BB6.on hL.below)) Tryz.underlying36 (show (exC e).length=4 from rfl) (he.1 rfl))
      ·intro A w1 hA hL hS he;have h35:=eT 35 (he.2.2.1 rfl);have h39:=eT 39 (he.1 rfl);have h41:=eT 41 (he.2.1 rfl);exact yZ h35 rfl
      ·exact fun _ _ _ _ _ e=>goOn_plain rfl (stepG_pk rfl (e.1 rfl) rfl (e.2.1 rfl))
      ·intro W2 hL2;simp only [TailL,FactL.eq,FactL.ret,List.length_cons,List.length_nil,List.drop_succ_cons,List.drop_zero];go_frame;go_wp2;go_meet
       case rel=>exact⟨by rw [hg2],hL2.below⟩
    case rest =>
     obtain⟨rfl,hbc⟩:=hcut;replace hbr:=hbr.trans (hbc.mono hbr.size);replace BB6:=BB6.on hbc;replace hown6:=hown6.on hbc;replace hr:=hr.on hbc;clear hbc;have hlt6:=BB6.lt;have hblk:=hown6.base_le
     go_upto_if 43 with (fail)
     go_cut [7] (fun v7 wc=>∃ (c:Rat) (r':List Value) (rest:List Trm),Hid (Blk wc w.heap.size monoT (exC e++r'))/\Hid (IsRatC wc r' c)/\Hid (IsPoly w v7 rest)/\Hid (OwnPoly base wc v6 (p.take k))/\Hid (RES=p.take k++insT (e,c) rest)/\Below w.heap.size w wc/\rest.length<=p.length)
     case first =>
      cases g2
      ·go_wp2;go_meet
       case rel =>
        refine⟨q,r,P,zH BB6,zH hr,zH hP6,zH hown6,zH ?_,hbr,hdl⟩;rw [hRES.out,hins.out]
        cases P with
       |nil=>rw [ins_nil']
       |cons t P2 =>
         have h1:=hgf.out rfl t P2 rfl;have h2:t.1≠e:=of_decide_eq_false hg2.symm;rw [ins_ne' h1 h2]
      ·obtain⟨t,P2,rfl⟩:∃ t P2,P=t::P2:=by
        cases P with
       |nil=>cases hg2
       |cons t P2=>exact⟨t,P2,rfl⟩
       have hte:t.1=e:=of_decide_eq_true hg2.symm;have hkt:Rs t.2:=hqs t (by simp);obtain⟨bp,op,csp,rfl,-,hE,hC⟩:=hP6.get (j:=0) (t:=t) rfl;obtain⟨rt,rfl,hrt⟩:=hE;change Cells monoT w bp (op+0*8) _ at hC;have hPb:=hP6.drop 1;rw [List.drop_succ_cons,List.drop_zero] at hPb;change IsPoly w (.slice (if cr=1 then some ⟨bp,op,none⟩ else (some ⟨bp,op,none⟩:Option Addr).map (·.add (1*8))) _ _) _ at hPb;simp only [List.length_cons] at hPb hcr hdl ⊢;have hl48:=hrt.len;clear hg2 hqs hgf;replace hte:=zH hte;replace hblk:=zH hblk;have hlow:=fun W':World=>run_slice_low (P:=Tryz.prog) Tryz.underlying27 info37 W' (some ⟨bp,op,none⟩) (P2.length+1) cr 1 .i64 (1:Int) rfl (by omega) hcr;obtain⟨vz,hvz⟩:∃ vz:Value,vz=.slice (if cr=1 then some ⟨bp,op,none⟩ else (some ⟨bp,op,none⟩:Option Addr).map (·.add (1*8))) (P2.length+1 - 1) (cr - 1):=⟨_,rfl⟩;rw [<- hvz] at hlow hPb;replace hvz:=zH hvz;replace hlow:=zH hlow
       go_upto_region 7 with (fail)
       refine wp_region_L mixed (none) (0) (Okr.none) [.eq (.pointer (some ⟨w.heap.size,0+4,none⟩)),.eq (.agg (r).toArray),.eq (.slice (some ⟨bp,op,none⟩) (P2.length+1) cr),.eq (.pointer (some ⟨bp,op+0*8,none⟩)),.eq (.pointer (some ⟨bp,op+0*8+4,none⟩)),.eq (.agg (rt).toArray),.rat (by decide) ((q+t.2)),.eq (.pointer (some ⟨w.heap.size,0+4,none⟩))] [44,45,46,47,48,49,50,51] rfl rfl rfl rfl ⟨?_,?_,?_,?_,?_,?_,?_,?_,trivial⟩ ?_
       ·exact fun _ _ a _ _ _=>goOn_plain rfl (xF1 rfl (a 3 rfl))
       ·exact fun _ _ _ hL _ e=>pL rfl (blk_rat (BB6.on hL.below)) Tryz.underlying41 (h4) (e.1 rfl)
       ·exact fun _ _ a _ _ _=>xM rfl (a 7 rfl)
       ·exact fun _ _ _ _ _ e=>pI rfl Tryz.underlying27 bp op 0 (by omega) (e.1 rfl) rfl
       ·exact fun _ _ _ _ _ e=>goOn_plain rfl (xF1 rfl (e.1 rfl))
       ·exact fun _ _ _ hL _ e=>pL rfl (cells_rat (hC.on (hbr.trans (hL.below.mono hbr.size)))) Tryz.underlying41 (hl48) (e.1 rfl)
       ·intro A w1 hA hL hS he;have hb:=hS rfl;have h45:=eT 45 (he.1 rfl);have h49:=eT 49 (he.2.1 rfl);have hf0:=eF A 81;exact cP (f:=81) (args:=#[.agg (r).toArray,.agg (rt).toArray]) (add2_any _ _ _ _ _ (hr.on hb).rat (hrt.on (hbr.trans (hb.mono hbr.size))).rat hkm hkt)
       ·exact fun _ _ a _ _ _=>goOn_plain rfl (xF1 rfl (a 3 rfl))
       ·intro W2 hL2;have hb2:=hL2.below;simp only [TailL,FactL.eq,FactL.rat,FactL.of,List.length_cons,List.length_nil,List.drop_succ_cons,List.drop_zero];rintro v50 h50;obtain⟨n5,a5,k5,c5,n6,a6,k6,c6,rfl⟩:=rat_agg h50;go_frame;have C6:=BB6.on hb2;have hown2:=hown6.on hb2;have hbr2:=hbr.trans (hb2.mono hbr.size);have hcl:(exC e++r).length=8:=by rw [List.length_append,h4];rfl
        clear hL2 BB6 hown6 hbr
        go_upto_region 8 with (refine wpList_store_part rfl _ (.tmp 51) (.tmp 50) rfl w.heap.size (0+4) monoT _ _ rfl rfl C6 (by rw [hcl];simp) sizeRat isRat_ones ?_;intro W3 R3 hl3)
        have hR3:Blk W3 w.heap.size monoT (exC e++[.bool n5,.slice a5 k5 c5,.bool n6,.slice a6 k6 c6]):=by
         have e1:(exC e++r).take (0+4)=exC e:=rfl;have e2:(exC e++r).drop (0+4+4)=[]:=List.drop_of_length_le (by rw [hcl];omega);have:=R3;simp only [List.size_toArray,List.length_cons,List.length_nil] at this;rw [e1,e2,List.append_nil] at this;exact this
        have hne:v6.ownBlock≠some w.heap.size:=fun h=>by have:=(hblk.out _ h).1;omega
        replace hlow:=hlow.out;have hown3:=hown2.lr hl3 (elTerm_ok (by decide)) (.inr hne);have h503:=(h50.lr hl3 (by decide)).cellsC;have hbr3:=hbr2.trans (hl3.belowAt hbr2.size (fun k hk=>by cases hk;exact Nat.le_refl _));go_wp2;go_meet
        case rel =>
         refine⟨q+t.2,_,P2,zH hR3,zH h503,zH hPb,zH hown3,zH ?_,hbr3,by omega⟩;rw [hRES.out,hins.out,ins_eq' hte.out]
     case rest =>
      clear hg2 BB6 hP6 hown6 hr hbr hRES hins hblk;obtain⟨c,r',rest,hB,hr,hrest,hown,hres,hbr,hrl⟩:=hcut;have BB:=hB.out;have h4':=hr.out.len
      go_upto_region 9 with (fail)
      have hsg:=fun W (hb:Below wc.heap.size wc W)=>sign2_any _ _ W (hr.out.on hb).rat;obtain⟨g3,hg3⟩:∃ g:Bool,g=(if c≠0/\e.nat=true then true else false):=⟨_,rfl⟩
      go_cut [54,55,56,57,58,59,60,61,62] (fun _ _ _ _ _ _ _ _ v62 wd=>v62=.bool g3/\Below wc.heap.size wc wd)
      case first =>
       by_cases hc:c=0
       ·rw [if_neg (by simp [hc])] at hg3;rw [show sgnZ c.num=0 by rw [hc];rfl] at hsg;refine wp_region_S trivial (none) (0) (Okr.none) [.eq (.pointer (some ⟨w.heap.size,0+4,none⟩)),.eq (.agg (r').toArray),.ret (.int .i64 0),.eq (.bool false),.eq (.bool false),.eq undef,.eq undef,.eq undef,.eq (.bool false)] [54,55,56,57,58,59,60,61,62] rfl rfl rfl rfl ⟨?_,?_,?_,?_,?_,?_,?_,?_,?_,trivial⟩ ?_
        ·exact fun _ _ a _ _ _=>goOn_plain rfl (xF1 rfl (a 3 rfl))
        ·exact fun _ _ _ hL _ e=>pL rfl (blk_rat (BB.on hL.below)) Tryz.underlying41 (h4') (e.1 rfl)
        ·intro A w1 hA hL hS he;have hb:=hS rfl;have h55:=eT 55 (he.1 rfl);have hf0:=eF A 67;refine goOn_plain rfl ?_;refine stepG_call (f:=67) (args:=#[.agg (r').toArray]) rfl rfl ?_ ?_
         ·exact gZ
         ·refine (hsg _ hb).mono ?_;rintro e w' ⟨rfl,hb'⟩;exact⟨_,rfl,hb',rfl⟩
        ·intro A w1 hA hL hS he;have h56:=eT 56 (he.1 rfl);have hc0:=eC A (.int .i64 0);exact pZ rfl
        ·exact fun _ _ _ _ _ e=>xM rfl (e.1 rfl)
        ·exact fun _ _ _ _ _ e=>goOn_no (x:=false) rfl rfl (e.1 rfl) rfl rfl
        ·exact fun _ _ _ _ _ e=>goOn_no (x:=false) rfl rfl (e.2.1 rfl) rfl rfl
        ·exact fun _ _ _ _ _ e=>goOn_no (x:=false) rfl rfl (e.2.1 rfl) rfl rfl
        ·exact fun _ _ _ _ _ e=>goOn_plain rfl (stepG_pk rfl (e.1 rfl) rfl rfl)
        ·intro W2 hL2;simp only [TailL,FactL.eq,FactL.ret,List.length_cons,List.length_nil,List.drop_succ_cons,List.drop_zero];go_frame;go_wp2;go_meet
         case rel=>exact⟨by rw [hg3],hL2.below⟩
       ·have hs0:=sgnZ_ne hc;generalize sgnZ c.num=sg at hs0 hsg;have hs1:(sg != 0)=true:=by simpa using hs0
        have hg4:g3=e.nat:=by rw [hg3];cases e.nat <;> simp [hc]
        refine wp_region_S trivial (none) (0) (Okr.none) [.eq (.pointer (some ⟨w.heap.size,0+4,none⟩)),.eq (.agg (r').toArray),.ret (.int .i64 sg),.eq (.bool true),.eq (.bool true),.eq (.pointer (some ⟨w.heap.size,0,none⟩)),.eq (.agg (exC e).toArray),.ret (.bool e.nat),.eq (.bool e.nat)] [54,55,56,57,58,59,60,61,62] rfl rfl rfl rfl ⟨?_,?_,?_,?_,?_,?_,?_,?_,?_,trivial⟩ ?_
        ·exact fun _ _ a _ _ _=>goOn_plain rfl (xF1 rfl (a 3 rfl))
        ·exact fun _ _ _ hL _ e=>pL rfl (blk_rat (BB.on hL.below)) Tryz.underlying41 (h4') (e.1 rfl)
        ·intro A w1 hA hL hS he;have hb:=hS rfl;have h55:=eT 55 (he.1 rfl);have hf0:=eF A 67;refine goOn_plain rfl ?_;refine stepG_call (f:=67) (args:=#[.agg (r').toArray]) rfl rfl ?_ ?_
         ·exact gZ
         ·refine (hsg _ hb).mono ?_;rintro e w' ⟨rfl,hb'⟩;exact⟨_,rfl,hb',rfl⟩
        ·intro A w1 hA hL hS he;have h56:=eT 56 (he.1 rfl);have hc0:=eC A (.int .i64 0);exact pZ rfl
        ·exact fun _ _ _ _ _ e=>xM rfl (e.1 rfl)
        ·exact fun _ _ a _ _ e=>goOn_yes rfl rfl (e.1 rfl) (xF0 rfl (a 3 rfl))
        ·exact fun A w1 hA hL hS he=>goOn_yes rfl rfl (he.2.1 rfl) (xL rfl (blk_ex (BB.on hL.below)) Tryz.underlying36 (show (exC e).length=4 from rfl) (he.1 rfl))
        ·intro A w1 hA hL hS he;have hb:=hS rfl;have h58:=eT 58 (he.2.1 rfl);have h60:=eT 60 (he.1 rfl);have hf0:=eF A 65;refine goOn_yes rfl rfl h58 ?_;refine stepG_call (f:=65) (args:=#[.agg (exC e).toArray]) rfl rfl ?_ ?_
         ·exact gZ
         ·refine (natural7_any e _).mono ?_;rintro e w' ⟨rfl,hb'⟩;exact⟨_,rfl,hb',rfl⟩
        ·exact fun _ _ _ _ _ e=>goOn_plain rfl (stepG_pk rfl (e.1 rfl) rfl (e.2.1 rfl))
        ·intro W2 hL2;simp only [TailL,FactL.eq,FactL.ret,List.length_cons,List.length_nil,List.drop_succ_cons,List.drop_zero];go_frame;go_wp2;go_meet
         case rel=>exact⟨by rw [hg4],hL2.below⟩
      case rest =>
       obtain⟨rfl,hbc⟩:=hcut;clear hsg;replace BB:=BB.on hbc;replace hr:=hr.out.on hbc;replace hrest:=hrest.out;replace hown:=hown.out.on hbc;replace hbr:=hbr.trans (hbc.mono hbr.size);clear hbc hB;have hbase:∀ k,v6.ownBlock=some k->w.heap.size<=k:=fun k hk=>by have:=(hown.base_le k hk).1;omega
       have hbl:base<=wc.heap.size\/v6.ownBlock=none:=by
        cases hv:v6.ownBlock with
       |none=>exact .inr rfl
       |some k=>have:=hown.base_le k hv;exact .inl (by omega)
       have htl:(p.take k).length<=p.length:=by simp;omega
       have hne':some w.heap.size≠v6.ownBlock:=fun h=>by have:=(hown.base_le _ h.symm).1;omega
       cases g3
       ·have hi:insT (e,c) rest=rest:=by
         unfold insT;split
         ·rename_i h;rw [if_pos h] at hg3;cases hg3
         ·rfl
        rw [hi] at hres;clear hi hg3;have hrw:=hrest.on hbr;have hlen:(p.take k).length+rest.length<=1000000000:=by omega
        go_wp2_with (at_builtin;refine wpList_app rfl _ _ 27 rfl Tryz.underlying27 info_elTerm rfl rfl (hown.rebase) hrw hlen (Nat.zero_le _) ?_;intro v8 w8 hown8 hl8 hv8)
        go_ret;exact⟨_,rfl,by rw [hres.out];exact hown8.isSl,hbr.trans (hl8.belowAt hbr.size hbase)⟩
       ·have hi:insT (e,c) rest=(e,c)::rest:=by
         unfold insT;split
         ·rfl
         ·rename_i h;rw [if_neg h] at hg3;cases hg3
        rw [hi] at hres;clear hi hg3;have h8:(exC e++r').length=8:=by rw [List.length_append,h4'];rfl
        have hown0:=hown.rebase
        go_upto_region 10 with (fail)
        refine wp_region_S trivial (v6.ownBlock) (monoT) (hown.okr) [.eq (v6),.eq (.agg (exC e++r').toArray),.new1 elTerm elTerm_okT ((e,c)),.row elTerm (0) wc.heap.size (p.take k++[(e,c)])] [63,64,65,66] rfl rfl rfl rfl ⟨?_,?_,?_,?_,trivial⟩ ?_
        ·exact fun _ _ a _ _ _=>xM rfl (a 6 rfl)
        ·exact fun _ _ a hL _ _=>pL rfl ((BB.lr hL hne').cells.range) Tryz.underlying43 (h8) (a 3 rfl)
        ·intro A w1 hA hL hS he;have h64:=eT 64 (he.1 rfl);refine goOn_plain rfl ?_;have hE:(elTerm:El _).E w1 _ ((e,c)):=⟨_,rfl,hr.lr hL (by decide)⟩;refine stepG_new1 rfl rfl ((hown.okr).lr hL) hE (execOp_buildSlice rfl ?_) (fun _ _ h=>h);simp only [List.map_toArray,List.map_cons,List.map_nil,h64];exact run_new1_elTermP _ _ ((elTerm).len hE)
        ·intro A w1 hA hL hS he;have hb:=hS rfl;have h63:=eT 63 (he.1 rfl);obtain⟨v65,h65,f65⟩:=fT 65 (he.2.1 rfl);exact goOn_plain rfl (stepG_append rfl rfl rfl Tryz.underlying27 info_elTerm h63 h65 (hown0.on hb) rfl rfl (isSl_of_new f65) (by simp only [List.length_cons,List.length_nil];omega) (Nat.zero_le _) hL.1.size (fun _ _ h1 h2=>⟨h1,h2⟩))
        ·intro W6 hL6;simp only [TailL,FactL.eq,FactL.new1,FactL.row,FactL.asPure,FactL.of,FactL.fragile,List.length_cons,List.length_nil,List.drop_succ_cons,List.drop_zero];rintro v65 - v66 ⟨hown6,hnew⟩;go_frame;have hbW6:=hbr.trans (hL6.belowAt hbr.size hbase);have hrw:=hrest.on hbW6;have hlen:(p.take k++[(e,c)]).length+rest.length<=1000000000:=by simp only [List.length_append,List.length_cons,List.length_nil];omega
         have hwd:w.heap.size<=wc.heap.size:=hbr.size
         have hbase6:∀ k,v66.ownBlock=some k->w.heap.size<=k:=fun k hk=>by
          rcases hnew with h|⟨k',h,hk'⟩
          ·exact hbase k (by rw [<- h];exact hk)
          ·rw [h] at hk;cases hk;omega
         go_wp2_with (at_builtin;refine wpList_app rfl _ _ 27 rfl Tryz.underlying27 info_elTerm rfl rfl hown6 hrw hlen (Nat.zero_le _) ?_;intro v8 w8 hown8 hl8 hv8)
         go_ret;exact⟨_,rfl,by rw [hres.out];simpa using hown8.isSl,hbW6.trans (hl8.belowAt hbW6.size hbase6)⟩
   ·obtain⟨hkl,hpre'⟩:=hgt.out rfl;clear hgf;go_wp2;go_roundw
    case rel=>exact⟨k+1,by omega,by go_num,zH hpre',hbr,zH BB⟩
    case measure=>simp [intOf];omega
end Go.Proofs.YtopclbeomcggiaaGreat
end
