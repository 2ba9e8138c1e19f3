/- The reference's rational numbers: Whole, Valid, Sign, Add, Mul, Same, Made. -/
import Derived.Test.YtopclbeomcggiaaGreatW21
import Derived.Test.YtopclbeomcggiaaGreatW24
set_option linter.unusedVariables false
set_option linter.unusedSimpArgs false
set_option maxHeartbeats 16000000
set_option maxRecDepth 100000
section
namespace Go.Proofs.YtopclbeomcggiaaGreat
open Go.RowKit Q
theorem xW (v:Value) (q:Rat) (w:World) (h:bV w v q):Calls Tryz.prog 67 #[v] w (rO w (.int .i64 (iV q.num))):=by
 obtain⟨s1,a1,l1,c1,s2,a2,l2,c2,rfl,i1,i2⟩:=h
 go_enter Tryz.func67,Tryz.ntmps67
 go_upto_region 1 with (fail)
 refine jI fun W hb0 B1 hsz=>?_;have e1:=B1.at1 0 _ rfl;have e2:=B1.at1 1 _ rfl
 go_wp2_with (go_at_call 100;refine (nX _ _ _ _ (i1.on hb0)).mono ?_;rintro e w1 ⟨rfl,hb1⟩)
 go_ret;exact⟨rfl,hb0.trans (hb1.mono hb0.size)⟩
theorem jh (n:Int) (w:World) (h1:-4611686018427387904<=n) (h2:n<=4611686018427387904):Calls Tryz.prog 24 #[.int .i64 n] w (qY w n):=by
 go_enter Tryz.func24,Tryz.ntmps24
 go_upto_region 1 with (fail)
 refine jI fun W hb0 B1 hsz=>?_;refine aP trivial (none) (0) (gp.none) [.eq (.int .i64 n),.int (by decide) (n),.int (by decide) (1),.rat (by decide) (n:Rat)] [3,4,5,6] rfl rfl rfl rfl ⟨?_,?_,?_,?_,trivial⟩ ?_
 ·exact fun _ _ a _ _ _=>xM rfl (a 0 rfl)
 ·intro A w1 hA hL hS he;have hb:=hS rfl;have h3:=eT 3 (he.1 rfl);have hf0:=eF A 70;exact cP (f:=70) (args:=#[.int .i64 n]) (Fg n _ h1 h2)
 ·intro A w1 hA hL hS he;have hb:=hS rfl;have hf0:=eF A 70;have hc0:=eC A (.int .i64 1);exact cP (f:=70) (args:=#[(.int .i64 1)]) (Fg 1 _ (by omega) (by omega))
 ·intro A w1 hA hL hS he;obtain⟨v4,h4,f4⟩:=fT 4 (he.1 rfl);obtain⟨v5,h5,f5⟩:=fT 5 (he.2.1 rfl);refine ae rfl ?_;obtain⟨x4,y4,rfl,i4⟩:=f4;obtain⟨x5,y5,rfl,i5⟩:=f5;obtain⟨a4,k4,q4,rfl,-,-⟩:=i4.shape;obtain⟨a5,k5,q5,rfl,-,-⟩:=i5.shape;refine iW (c:=.agg #[.bool x4,.slice a4 k4 q4,.bool x5,.slice a5 k5 q5]) rfl rfl (Below.refl _ _) ⟨_,_,_,_,_,_,_,_,rfl,by rw [Rat.num_intCast];exact i4,by rw [Rat.den_intCast];exact i5⟩ ?_;exact gZ
 ·intro w1 hL;have hb1:=hL.below;simp only [aU,af.eq,af.int,af.rat,af.of,lZ];rintro _ - _ - v6 h6;obtain⟨t1,b1,g1,d1,t2,b2,g2,d2,rfl,j1,j2⟩:=h6;go_frame;have C1:=B1.on hb1
  go_wp2_with (refine aA rfl _ (.tmp 2) (.tmp 6) rfl _ _ _ _ rfl rfl C1 rfl dL dQ ?_;intro w3 R gr)
  exact dM rfl rfl rfl R Tryz.underlying41 rfl dL (oZ hb0 hb1 (by omega) C1 ⟨_,_,_,_,_,_,_,_,rfl,j1,j2⟩ gr)
theorem Hu (v1 v2:Value) (p q:Rat) (w:World) (h1:bV w v1 p) (h2:bV w v2 q) (k1:Rs p) (k2:Rs q) :
  Calls Tryz.prog 81 #[v1,v2] w (qY w (p+q)):=by
 rw [<- Aq];obtain⟨s1,a1,l1,c1,s2,a2,l2,c2,rfl,i1,i2⟩:=h1;obtain⟨s3,a3,l3,c3,s4,a4,l4,c4,rfl,i3,i4⟩:=h2;obtain⟨df,db,dz⟩:=Ud k1 k2;have cb:=PI k1 k2;have cb':=PI k2 k1;have sb:aI (p.num*(q.den:Int)+q.num*(p.den:Int)).natAbs<=CS / 4:=by have:=GD cb cb';unfold CS at *;omega
 have cb1:aI (p.num*(q.den:Int)).natAbs<=CS:=by unfold CS at *;omega
 have cb2:aI (q.num*(p.den:Int)).natAbs<=CS:=by unfold CS at *;omega
 go_enter Tryz.func81,Tryz.ntmps81
 go_upto_region 1 with (fail)
 refine rY fun W hb0 B1 B2 B3 hsz=>?_;replace i1:=i1.on hb0;replace i2:=i2.on hb0;replace i3:=i3.on hb0;replace i4:=i4.on hb0;refine aF mixed (none) (0) (gp.none) [.eq (.pointer (some ⟨w.heap.size,0,none⟩)),.eq (.agg #[.bool s1,.slice a1 l1 c1]),.eq (.pointer (some ⟨w.heap.size+1,2,none⟩)),.eq (.agg #[.bool s4,.slice a4 l4 c4]),.int (by decide) ((p.num*(q.den:Int))),.eq (.pointer (some ⟨w.heap.size+1,0,none⟩)),.eq (.agg #[.bool s3,.slice a3 l3 c3]),.eq (.pointer (some ⟨w.heap.size,2,none⟩)),.eq (.agg #[.bool s2,.slice a2 l2 c2]),.int (by decide) ((q.num*(p.den:Int))),.int (by decide) ((p.num*(q.den:Int)+q.num*(p.den:Int))),.box 39 W.heap.size [.bool false,.slice none 0 0]] [6,7,8,9,10,11,12,13,14,15,16,5] rfl rfl rfl rfl ⟨?_,?_,?_,?_,?_,?_,?_,?_,?_,?_,?_,?_,trivial⟩ ?_
 ·intro A w1 hA hL hS he;have h2:A.eval (.tmp 2)=.pointer (some ⟨w.heap.size,0,none⟩):=hA 2 rfl;exact pZ rfl
 ·intro A w1 hA hL hS he;have hb:=hL.below;have h6:=eT 6 (he.1 rfl);have c0:=((B1).on hb).at1 0 _ rfl;have c1:=((B1).on hb).at1 1 _ rfl;exact pZ rfl
 ·intro A w1 hA hL hS he;have h3:A.eval (.tmp 3)=.pointer (some ⟨w.heap.size+1,0,none⟩):=hA 3 rfl;exact pZ rfl
 ·intro A w1 hA hL hS he;have hb:=hL.below;have h8:=eT 8 (he.1 rfl);have c0:=((B2).on hb).at1 2 _ rfl;have c1:=((B2).on hb).at1 3 _ rfl;exact pZ rfl
 ·intro A w1 hA hL hS he;have hb:=hS rfl;have h7:=eT 7 (he.1 rfl);have h9:=eT 9 (he.2.1 rfl);have hf0:=eF A 105;exact cP (f:=105) (args:=#[.agg #[.bool s1,.slice a1 l1 c1],.agg #[.bool s4,.slice a4 l4 c4]]) (sM _ _ _ _ _ _ _ (i1.on hb) (i4.on hb) (OL k1.num) (OL k2.den))
 ·intro A w1 hA hL hS he;have h3:A.eval (.tmp 3)=.pointer (some ⟨w.heap.size+1,0,none⟩):=hA 3 rfl;exact pZ rfl
 ·intro A w1 hA hL hS he;have hb:=hL.below;have h11:=eT 11 (he.1 rfl);have c0:=((B2).on hb).at1 0 _ rfl;have c1:=((B2).on hb).at1 1 _ rfl;exact pZ rfl
 ·intro A w1 hA hL hS he;have h2:A.eval (.tmp 2)=.pointer (some ⟨w.heap.size,0,none⟩):=hA 2 rfl;exact pZ rfl
 ·intro A w1 hA hL hS he;have hb:=hL.below;have h13:=eT 13 (he.1 rfl);have c0:=((B1).on hb).at1 2 _ rfl;have c1:=((B1).on hb).at1 3 _ rfl;exact pZ rfl
 ·intro A w1 hA hL hS he;have hb:=hS rfl;have h12:=eT 12 (he.1 rfl);have h14:=eT 14 (he.2.1 rfl);have hf0:=eF A 105;exact cP (f:=105) (args:=#[.agg #[.bool s3,.slice a3 l3 c3],.agg #[.bool s2,.slice a2 l2 c2]]) (sM _ _ _ _ _ _ _ (i3.on hb) (i2.on hb) (OL k2.num) (OL k1.den))
 ·intro A w1 hA hL hS he;have hb:=hS rfl;obtain⟨v10,h10,f10⟩:=fT 10 (he.1 rfl);obtain⟨v15,h15,f15⟩:=fT 15 (he.2.1 rfl);have hf0:=eF A 108;refine ae rfl ?_;refine fI (f:=108) (args:=#[v10,v15]) rfl rfl ?_ ?_
  ·exact gZ
  ·obtain⟨n10,m10,rfl,i10⟩:=f10;obtain⟨n15,m15,rfl,i15⟩:=f15;refine (Ba _ _ _ _ _ _ _ i10 i15 cb1 cb2).mono ?_;rintro e w' ⟨neg,m,rfl,hi,hb'⟩;exact⟨_,rfl,hb',neg,m,rfl,hi⟩
 ·intro A w1 hA hL hS he;refine ae rfl ?_;refine uk rfl rfl ((gp.none).lr hL) hL.1.size (by generalize A.eval=ev at *;go_simp) (fun _ _ h=>h)
 ·intro W2 hL2;have hb2:=hL2.below;simp only [aU,af.eq,af.int,af.box,af.of,lZ];rintro _ - _ - _ ⟨n16,m16,rfl,i16⟩ v5 ⟨x,-,hBx,rfl,B5⟩;obtain⟨a5,k5,q5,rfl,-,-⟩:=i16.shape;go_frame;have C1:=B1.on hb2;have C2:=B2.on hb2;have C3:=B3.on hb2;have hlt:=B3.lt
  go_upto_region 2 with (refine aA rfl _ (.tmp 5) (.tmp 16) rfl _ _ _ _ rfl rfl B5 rfl aR i16.ones ?_;intro w3 R3 gr3)
  have D1:=C1.grown gr3 (by omega);have D2:=C2.grown gr3 (by omega);have D3:=C3.grown gr3 (by omega);have j16:=i16.stored gr3 B5 (by decide);have j2:=(i2.on hb2).stored gr3 B5 (by decide);have j4:=(i4.on hb2).stored gr3 B5 (by decide);have hb3:Below W.heap.size W w3:=hb2.trans ((aM gr3 (Nat.le_of_lt B5.lt) (Nat.le_refl _)).mono (by omega));clear C1 C2 C3 B5 gr3 i16 hb2 hL2;refine aF mixed (none) (0) (gp.none) [.eq (.agg #[.bool n16,.slice a5 k5 q5]),.eq (.pointer (some ⟨w.heap.size,2,none⟩)),.eq (.agg #[.bool s2,.slice a2 l2 c2]),.eq (.pointer (some ⟨w.heap.size+1,2,none⟩)),.eq (.agg #[.bool s4,.slice a4 l4 c4]),.int (by decide) (((p.den:Int)*(q.den:Int))),.rat (by decide) ((Rat.divInt (p.num*(q.den:Int)+q.num*(p.den:Int)) ((p.den:Int)*(q.den:Int))))] [17,18,19,20,21,22,23] rfl rfl rfl rfl ⟨?_,?_,?_,?_,?_,?_,?_,trivial⟩ ?_
  ·intro A w1 hA hL hS he;have hb:=hL.below;have h5:A.eval (.tmp 5)=.pointer (some ⟨x,0,none⟩):=hA 5 rfl;have c0:=((R3).on hb).at1 0 _ rfl;have c1:=((R3).on hb).at1 1 _ rfl;exact pZ rfl
  ·intro A w1 hA hL hS he;have h2:A.eval (.tmp 2)=.pointer (some ⟨w.heap.size,0,none⟩):=hA 2 rfl;exact pZ rfl
  ·intro A w1 hA hL hS he;have hb:=hL.below;have h18:=eT 18 (he.1 rfl);have c0:=((D1).on hb).at1 2 _ rfl;have c1:=((D1).on hb).at1 3 _ rfl;exact pZ rfl
  ·intro A w1 hA hL hS he;have h3:A.eval (.tmp 3)=.pointer (some ⟨w.heap.size+1,0,none⟩):=hA 3 rfl;exact pZ rfl
  ·intro A w1 hA hL hS he;have hb:=hL.below;have h20:=eT 20 (he.1 rfl);have c0:=((D2).on hb).at1 2 _ rfl;have c1:=((D2).on hb).at1 3 _ rfl;exact pZ rfl
  ·intro A w1 hA hL hS he;have hb:=hS rfl;have h19:=eT 19 (he.1 rfl);have h21:=eT 21 (he.2.1 rfl);have hf0:=eF A 105;exact cP (f:=105) (args:=#[.agg #[.bool s2,.slice a2 l2 c2],.agg #[.bool s4,.slice a4 l4 c4]]) (sM _ _ _ _ _ _ _ (j2.on hb) (j4.on hb) (OL k1.den) (OL k2.den))
  ·intro A w1 hA hL hS he;have hb:=hS rfl;have h17:=eT 17 (he.1 rfl);obtain⟨v22,h22,f22⟩:=fT 22 (he.2.1 rfl);have hf0:=eF A 107;refine ae rfl ?_;refine fI (f:=107) (args:=#[.agg #[.bool n16,.slice a5 k5 q5],v22]) rfl rfl ?_ ?_
   ·exact gZ
   ·obtain⟨n22,m22,rfl,i22⟩:=f22;refine (LD _ _ _ _ _ _ _ (j16.on hb) i22 sb db dz df).mono ?_;rintro e w' ⟨v,rfl,hi,hb'⟩;exact⟨_,rfl,hb',hi⟩
  ·intro w4 hL4;have hb4:=hL4.below;simp only [aU,af.eq,af.int,af.rat,af.of,lZ];rintro _ - v23 h23;obtain⟨t1,b1,g1,d1,t2,b2,g2,d2,rfl,u1,u2⟩:=h23;go_frame;have E3:=D3.on hb4
   go_wp2_with (refine aA rfl _ (.tmp 4) (.tmp 23) rfl _ _ _ _ rfl rfl E3 rfl dL dQ ?_;intro w5 R gr)
   exact dM rfl rfl rfl R Tryz.underlying41 rfl dL (oZ hb0 (hb3.trans (hb4.mono hb3.size)) (by omega) E3 ⟨_,_,_,_,_,_,_,_,rfl,u1,u2⟩ gr)
theorem PS (v1 v2:Value) (p q:Rat) (w:World) (h1:bV w v1 p) (h2:bV w v2 q) (k1:Rs p) (k2:Rs q) :
  Calls Tryz.prog 75 #[v1,v2] w (qY w (p*q)):=by
 rw [<- Ar];obtain⟨s1,a1,l1,c1,s2,a2,l2,c2,rfl,i1,i2⟩:=h1;obtain⟨s3,a3,l3,c3,s4,a4,l4,c4,rfl,i3,i4⟩:=h2;obtain⟨df,db,dz⟩:=Ud k1 k2;have sb:aI (p.num*q.num).natAbs<=CS / 4:=by have:=jV p.num.natAbs q.num.natAbs;have:=k1.2;have:=k2.2;rw [Int.natAbs_mul];unfold CS at *;omega
 go_enter Tryz.func75,Tryz.ntmps75
 go_upto_region 1 with (fail)
 refine rY fun W hb0 B1 B2 B3 hsz=>?_;replace i1:=i1.on hb0;replace i2:=i2.on hb0;replace i3:=i3.on hb0;replace i4:=i4.on hb0;refine aF mixed (none) (0) (gp.none) [.eq (.pointer (some ⟨w.heap.size,0,none⟩)),.eq (.agg #[.bool s1,.slice a1 l1 c1]),.eq (.pointer (some ⟨w.heap.size+1,0,none⟩)),.eq (.agg #[.bool s3,.slice a3 l3 c3]),.int (by decide) ((p.num*q.num)),.eq (.pointer (some ⟨w.heap.size,2,none⟩)),.eq (.agg #[.bool s2,.slice a2 l2 c2]),.eq (.pointer (some ⟨w.heap.size+1,2,none⟩)),.eq (.agg #[.bool s4,.slice a4 l4 c4]),.int (by decide) (((p.den:Int)*(q.den:Int))),.rat (by decide) ((Rat.divInt (p.num*q.num) ((p.den:Int)*(q.den:Int))))] [5,6,7,8,9,10,11,12,13,14,15] rfl rfl rfl rfl ⟨?_,?_,?_,?_,?_,?_,?_,?_,?_,?_,?_,trivial⟩ ?_
 ·intro A w1 hA hL hS he;have h2:A.eval (.tmp 2)=.pointer (some ⟨w.heap.size,0,none⟩):=hA 2 rfl;exact pZ rfl
 ·intro A w1 hA hL hS he;have hb:=hL.below;have h5:=eT 5 (he.1 rfl);have c0:=((B1).on hb).at1 0 _ rfl;have c1:=((B1).on hb).at1 1 _ rfl;exact pZ rfl
 ·intro A w1 hA hL hS he;have h3:A.eval (.tmp 3)=.pointer (some ⟨w.heap.size+1,0,none⟩):=hA 3 rfl;exact pZ rfl
 ·intro A w1 hA hL hS he;have hb:=hL.below;have h7:=eT 7 (he.1 rfl);have c0:=((B2).on hb).at1 0 _ rfl;have c1:=((B2).on hb).at1 1 _ rfl;exact pZ rfl
 ·intro A w1 hA hL hS he;have hb:=hS rfl;have h6:=eT 6 (he.1 rfl);have h8:=eT 8 (he.2.1 rfl);have hf0:=eF A 105;exact cP (f:=105) (args:=#[.agg #[.bool s1,.slice a1 l1 c1],.agg #[.bool s3,.slice a3 l3 c3]]) (sM _ _ _ _ _ _ _ (i1.on hb) (i3.on hb) (OL k1.num) (OL k2.num))
 ·intro A w1 hA hL hS he;have h2:A.eval (.tmp 2)=.pointer (some ⟨w.heap.size,0,none⟩):=hA 2 rfl;exact pZ rfl
 ·intro A w1 hA hL hS he;have hb:=hL.below;have h10:=eT 10 (he.1 rfl);have c0:=((B1).on hb).at1 2 _ rfl;have c1:=((B1).on hb).at1 3 _ rfl;exact pZ rfl
 ·intro A w1 hA hL hS he;have h3:A.eval (.tmp 3)=.pointer (some ⟨w.heap.size+1,0,none⟩):=hA 3 rfl;exact pZ rfl
 ·intro A w1 hA hL hS he;have hb:=hL.below;have h12:=eT 12 (he.1 rfl);have c0:=((B2).on hb).at1 2 _ rfl;have c1:=((B2).on hb).at1 3 _ rfl;exact pZ rfl
 ·intro A w1 hA hL hS he;have hb:=hS rfl;have h11:=eT 11 (he.1 rfl);have h13:=eT 13 (he.2.1 rfl);have hf0:=eF A 105;exact cP (f:=105) (args:=#[.agg #[.bool s2,.slice a2 l2 c2],.agg #[.bool s4,.slice a4 l4 c4]]) (sM _ _ _ _ _ _ _ (i2.on hb) (i4.on hb) (OL k1.den) (OL k2.den))
 ·intro A w1 hA hL hS he;have hb:=hS rfl;obtain⟨v9,h9,f9⟩:=fT 9 (he.1 rfl);obtain⟨v14,h14,f14⟩:=fT 14 (he.2.1 rfl);have hf0:=eF A 107;refine ae rfl ?_;refine fI (f:=107) (args:=#[v9,v14]) rfl rfl ?_ ?_
  ·exact gZ
  ·obtain⟨n9,m9,rfl,i9⟩:=f9;obtain⟨n14,m14,rfl,i14⟩:=f14;refine (LD _ _ _ _ _ _ _ i9 i14 sb db dz df).mono ?_;rintro e w' ⟨v,rfl,hi,hb'⟩;exact⟨_,rfl,hb',hi⟩
 ·intro w4 hL4;have hb4:=hL4.below;simp only [aU,af.eq,af.int,af.rat,af.of,lZ];rintro _ - _ - v23 h23;obtain⟨t1,b1,g1,d1,t2,b2,g2,d2,rfl,u1,u2⟩:=h23;go_frame;have E3:=B3.on hb4
  go_wp2_with (refine aA rfl _ (.tmp 4) (.tmp 15) rfl _ _ _ _ rfl rfl E3 rfl dL dQ ?_;intro w5 R gr)
  exact dM rfl rfl rfl R Tryz.underlying41 rfl dL (oZ hb0 hb4 (by omega) E3 ⟨_,_,_,_,_,_,_,_,rfl,u1,u2⟩ gr)
theorem PT {p q:Rat}:decide (p=q)=(decide (p.num=q.num) && decide ((p.den:Int)=(q.den:Int))):=by
 rw [Bool.eq_iff_iff];simp only [decide_eq_true_eq,Bool.and_eq_true];constructor
 ·rintro rfl;exact⟨rfl,rfl⟩
 ·rintro⟨h1,h2⟩;exact Rat.ext h1 (by omega)
theorem DV (v1 v2:Value) (p q:Rat) (w:World) (h1:bV w v1 p) (h2:bV w v2 q) (k1:Rk p) (k2:Rk q) :
  Calls Tryz.prog 23 #[v1,v2] w (rO w (.bool (decide (p=q)))):=by
 obtain⟨s1,a1,l1,c1,s2,a2,l2,c2,rfl,i1,i2⟩:=h1;obtain⟨s3,a3,l3,c3,s4,a4,l4,c4,rfl,i3,i4⟩:=h2;have he:=PT (p:=p) (q:=q);have HN:=fun W (hb:Below w.heap.size w W)=>DR _ _ _ _ _ _ W (i1.on hb) (i3.on hb) k1.num' k2.num';have HD:=fun W (hb:Below w.heap.size w W)=>DR _ _ _ _ _ _ W (i2.on hb) (i4.on hb) k1.den' k2.den';generalize decide ((p.den:Int)=(q.den:Int))=dd at *;generalize decide (p.num=q.num)=dn at *;replace he:=zH he
 go_enter Tryz.func23,Tryz.ntmps23
 go_upto_region 1 with (fail)
 refine xm fun W hb0 B1 B2 hsz=>?_;cases dn
 ·skip
  refine aP trivial (none) (0) (gp.none) [.eq (.pointer (some ⟨w.heap.size,0,none⟩)),.eq (.agg #[.bool s1,.slice a1 l1 c1]),.eq (.pointer (some ⟨w.heap.size+1,0,none⟩)),.eq (.agg #[.bool s3,.slice a3 l3 c3]),.ret (.bool false),.eq (.bool false),.eq undef,.eq undef,.eq undef,.eq undef,.eq undef,.eq (.bool false)] [5,6,7,8,9,10,11,12,13,14,15,16] rfl rfl rfl rfl ⟨?_,?_,?_,?_,?_,?_,?_,?_,?_,?_,?_,?_,trivial⟩ ?_
  ·intro A w1 hA hL hS he;have h2:A.eval (.tmp 2)=.pointer (some ⟨w.heap.size,0,none⟩):=hA 2 rfl;exact pZ rfl
  ·intro A w1 hA hL hS he;have hb:=hL.below;have h5:=eT 5 (he.1 rfl);have c0:=((B1).on hb).at1 0 _ rfl;have c1:=((B1).on hb).at1 1 _ rfl;exact pZ rfl
  ·intro A w1 hA hL hS he;have h3:A.eval (.tmp 3)=.pointer (some ⟨w.heap.size+1,0,none⟩):=hA 3 rfl;exact pZ rfl
  ·intro A w1 hA hL hS he;have hb:=hL.below;have h7:=eT 7 (he.1 rfl);have c0:=((B2).on hb).at1 0 _ rfl;have c1:=((B2).on hb).at1 1 _ rfl;exact pZ rfl
  ·intro A w1 hA hL hS he;have hb:=hS rfl;have h6:=eT 6 (he.1 rfl);have h8:=eT 8 (he.2.1 rfl);have hf0:=eF A 69;exact cP (f:=69) (args:=#[.agg #[.bool s1,.slice a1 l1 c1],.agg #[.bool s3,.slice a3 l3 c3]]) (HN _ (hb0.trans (hb.mono hb0.size)))
  ·exact fun _ _ _ _ _ e=>xM rfl (e.1 rfl)
  ·exact fun _ _ _ _ _ e=>nO false (e.1 rfl)
  ·exact fun _ _ _ _ _ e=>nO false (e.2.1 rfl)
  ·exact fun _ _ _ _ _ e=>nO false (e.1 rfl)
  ·exact fun _ _ _ _ _ e=>nO false (e.2.1 rfl)
  ·exact fun _ _ _ _ _ e=>nO false (e.2.2.1 rfl)
  ·exact fun _ _ _ _ _ e=>ae rfl (iM rfl (e.1 rfl) rfl rfl)
  ·intro W2 hL2;simp only [aU,af.eq,af.ret,lZ];go_frame;go_wp2;go_ret;exact⟨by rw [he.out] <;> rfl,hb0.trans (hL2.below.mono hb0.size)⟩
 ·skip
  refine aP trivial (none) (0) (gp.none) [.eq (.pointer (some ⟨w.heap.size,0,none⟩)),.eq (.agg #[.bool s1,.slice a1 l1 c1]),.eq (.pointer (some ⟨w.heap.size+1,0,none⟩)),.eq (.agg #[.bool s3,.slice a3 l3 c3]),.ret (.bool true),.eq (.bool true),.eq (.pointer (some ⟨w.heap.size,2,none⟩)),.eq (.agg #[.bool s2,.slice a2 l2 c2]),.eq (.pointer (some ⟨w.heap.size+1,2,none⟩)),.eq (.agg #[.bool s4,.slice a4 l4 c4]),.ret (.bool dd),.eq (.bool dd)] [5,6,7,8,9,10,11,12,13,14,15,16] rfl rfl rfl rfl ⟨?_,?_,?_,?_,?_,?_,?_,?_,?_,?_,?_,?_,trivial⟩ ?_
  ·intro A w1 hA hL hS he;have h2:A.eval (.tmp 2)=.pointer (some ⟨w.heap.size,0,none⟩):=hA 2 rfl;exact pZ rfl
  ·intro A w1 hA hL hS he;have hb:=hL.below;have h5:=eT 5 (he.1 rfl);have c0:=((B1).on hb).at1 0 _ rfl;have c1:=((B1).on hb).at1 1 _ rfl;exact pZ rfl
  ·intro A w1 hA hL hS he;have h3:A.eval (.tmp 3)=.pointer (some ⟨w.heap.size+1,0,none⟩):=hA 3 rfl;exact pZ rfl
  ·intro A w1 hA hL hS he;have hb:=hL.below;have h7:=eT 7 (he.1 rfl);have c0:=((B2).on hb).at1 0 _ rfl;have c1:=((B2).on hb).at1 1 _ rfl;exact pZ rfl
  ·intro A w1 hA hL hS he;have hb:=hS rfl;have h6:=eT 6 (he.1 rfl);have h8:=eT 8 (he.2.1 rfl);have hf0:=eF A 69;exact cP (f:=69) (args:=#[.agg #[.bool s1,.slice a1 l1 c1],.agg #[.bool s3,.slice a3 l3 c3]]) (HN _ (hb0.trans (hb.mono hb0.size)))
  ·exact fun _ _ _ _ _ e=>xM rfl (e.1 rfl)
  ·intro A w1 hA hL hS he;have h10:=eT 10 (he.1 rfl);have h2:A.eval (.tmp 2)=.pointer (some ⟨w.heap.size,0,none⟩):=hA 2 rfl;exact yZ h10 rfl
  ·intro A w1 hA hL hS he;have hb:=hL.below;have h10:=eT 10 (he.2.1 rfl);have h11:=eT 11 (he.1 rfl);have c0:=((B1).on hb).at1 2 _ rfl;have c1:=((B1).on hb).at1 3 _ rfl;exact yZ h10 rfl
  ·intro A w1 hA hL hS he;have h10:=eT 10 (he.1 rfl);have h3:A.eval (.tmp 3)=.pointer (some ⟨w.heap.size+1,0,none⟩):=hA 3 rfl;exact yZ h10 rfl
  ·intro A w1 hA hL hS he;have hb:=hL.below;have h10:=eT 10 (he.2.1 rfl);have h13:=eT 13 (he.1 rfl);have c0:=((B2).on hb).at1 2 _ rfl;have c1:=((B2).on hb).at1 3 _ rfl;exact yZ h10 rfl
  ·intro A w1 hA hL hS he;have hb:=hS rfl;have h10:=eT 10 (he.2.2.1 rfl);have h12:=eT 12 (he.1 rfl);have h14:=eT 14 (he.2.1 rfl);have hf0:=eF A 69;exact cY (f:=69) (args:=#[.agg #[.bool s2,.slice a2 l2 c2],.agg #[.bool s4,.slice a4 l4 c4]]) h10 (HD _ (hb0.trans (hb.mono hb0.size)))
  ·exact fun _ _ _ _ _ e=>pK rfl (e.1 rfl) (e.2.1 rfl)
  ·intro W2 hL2;simp only [aU,af.eq,af.ret,lZ];go_frame;go_wp2;go_ret;exact⟨by rw [he.out] <;> rfl,hb0.trans (hL2.below.mono hb0.size)⟩
theorem Ex.gt_at {e f:Ex} {i:Nat} (hi:i<4) (h:∀ j,i<j->j<4->e.get j=f.get j) (hne:e.get i≠f.get i):e.gt f=decide (f.get i<e.get i):=by
 obtain⟨a,b,c,d⟩:=e;obtain⟨a',b',c',d'⟩:=f;have h1:=h 1;have h2:=h 2;have h3:=h 3;rw [Bool.eq_iff_iff,Ex.gt_iff,decide_eq_true_iff];obtain rfl|rfl|rfl|rfl:i=0\/i=1\/i=2\/i=3:=by omega
 all_goals simp [Ex.get] at *
 all_goals omega
theorem Ex.eq_get {e f:Ex} (h:∀ j,j<4->e.get j=f.get j):e=f :=
 Ex.ext' (h 0 (by omega)) (h 1 (by omega)) (h 2 (by omega)) (h 3 (by omega))
theorem sW (e f:Ex) (w:World):Calls Tryz.prog 68 #[.agg (bR e).toArray,.agg (bR f).toArray] w (rO w (.bool (e.gt f))):=by
 have hg0:=fun i hi h hne=>Ex.gt_at (e:=e) (f:=f) (i:=i) hi h hne;have hg1:(∀ j,j<4->e.get j=f.get j)->e.gt f=false:=fun h=>by rw [Ex.eq_get h];exact Ex.gt_irrefl _
 have hc1:=fun k hk=>zL e k hk;have hc2:=fun k hk=>zL f k hk;generalize e.gt f=R at *;obtain⟨x1,x2,x3,x4⟩:=e;obtain⟨y1,y2,y3,y4⟩:=f;simp only [bR] at hc1 hc2 ⊢;replace hg0:=zH hg0;replace hg1:=zH hg1
 go_enter Tryz.func68,Tryz.ntmps68
 go_upto_region 1 with (fail)
 refine xm fun W hb0 B1 B2 hsz=>?_;go_wp2
 go_loopw [5] (fun i wr=>∃ k:Nat,k<=4/\i=.int .i64 ((k:Int)-1)/\Hid (∀ j,k<=j->j<4->Ex.get (x1,x2,x3,x4) j=Ex.get (y1,y2,y3,y4) j)/\Below W.heap.size W wr) (fun i _=>(intOf i+1).toNat)
 case atStart=>exact⟨4,by omega,rfl,zH (fun j h1 h2=>by omega),Below.refl _ _⟩
 case round =>
  obtain⟨k,hk,rfl,hd,hbr⟩:=hrel;by_cases h0:1<=k
  ·obtain⟨i,rfl⟩:∃ i,k=i+1:=⟨k - 1,by omega⟩;have hi4:i<4:=by omega
   have hi4':(i:Int)<4:=by omega
   have hx:=hc1 i hi4;have hy:=hc2 i hi4;have hst:=hg0.out i hi4 (fun j h1 h2=>hd.out j h1 h2)
   have hde:Ex.get (x1,x2,x3,x4) i=Ex.get (y1,y2,y3,y4) i->∀ j,i<=j->j<4->Ex.get (x1,x2,x3,x4) j=Ex.get (y1,y2,y3,y4) j:=fun h j h1 h2=>by
    rcases Nat.eq_or_lt_of_le h1 with h'|h'
    ·rw [<- h'];exact h
    ·exact hd.out j h' h2
   replace hde:=zH hde;have HX:Hid (∃ x,x=Ex.get (x1,x2,x3,x4) i):=⟨_,rfl⟩;obtain⟨x,ex⟩:=HX.out;have HY:Hid (∃ y,y=Ex.get (y1,y2,y3,y4) i):=⟨_,rfl⟩;obtain⟨y,ey⟩:=HY.out;rw [<- ex] at hx hst;rw [<- ey] at hy hst;replace ex:=zH ex;replace ey:=zH ey;clear hd HX HY;have hi1:(((i+1:Nat):Int) - 1)=(i:Int):=by omega
   rw [hi1];have f1:∀ W',Below W.heap.size W W'->W'.cell? ⟨w.heap.size,i,none⟩=some (.int .i64 x):=fun W' hb=>(B1.on hb).at1 i _ hx;have f2:∀ W',Below W.heap.size W W'->W'.cell? ⟨w.heap.size+1,i,none⟩=some (.int .i64 y):=fun W' hb=>(B2.on hb).at1 i _ hy;clear hx hy
   go_upto_region 4 with (fail)
   refine aF mixed (none) (0) (gp.none) [.eq (.int .i64 i),.eq (.pointer (some ⟨w.heap.size,i,none⟩)),.eq (.int .i64 x),.eq (.int .i64 i),.eq (.pointer (some ⟨w.heap.size+1,i,none⟩)),.eq (.int .i64 y),.eq (.bool (x != y))] [10,11,12,13,14,15,16] rfl rfl rfl rfl ⟨?_,?_,?_,?_,?_,?_,?_,trivial⟩ ?_
   ·exact fun _ _ a _ _ _=>xM rfl (a 5 rfl)
   ·intro A w1 hA hL hS he;have h2:A.eval (.tmp 2)=.pointer (some ⟨w.heap.size,0,none⟩):=hA 2 rfl;have h10:=eT 10 (he.1 rfl);exact pZ rfl
   ·intro A w1 hA hL hS he;have h11:=eT 11 (he.1 rfl);refine ae rfl ?_;have c0:=f1 w1 (hbr.trans (hL.below.mono hbr.size));exact aC rfl rfl gZ
   ·exact fun _ _ a _ _ _=>xM rfl (a 5 rfl)
   ·intro A w1 hA hL hS he;have h3:A.eval (.tmp 3)=.pointer (some ⟨w.heap.size+1,0,none⟩):=hA 3 rfl;have h13:=eT 13 (he.1 rfl);exact pZ rfl
   ·intro A w1 hA hL hS he;have h14:=eT 14 (he.1 rfl);refine ae rfl ?_;have c0:=f2 w1 (hbr.trans (hL.below.mono hbr.size));exact aC rfl rfl gZ
   ·intro A w1 hA hL hS he;have h12:=eT 12 (he.1 rfl);have h15:=eT 15 (he.2.1 rfl);exact pZ rfl
   ·intro W2 hL2;simp only [aU,af.eq,lZ];go_frame;have hb2:=hbr.trans (hL2.below.mono hbr.size);by_cases hxy:x=y
    ·have HD:=zH (hde.out (by rw [<- ex.out,<- ey.out];exact hxy));have hxb:(x != y)=false:=by simp [hxy]
     rw [hxb];clear f1 f2;go_wp2;go_roundw
     case rel=>exact⟨i,by omega,by go_num,HD,hb2⟩
     case measure=>simp [intOf]
    ·have HR:=zH (hst hxy);have hxb:(x != y)=true:=by simp [hxy]
     rw [hxb]
     go_upto_region 5 with (fail)
     refine aF mixed (none) (0) (gp.none) [.eq (.int .i64 i),.eq (.pointer (some ⟨w.heap.size,i,none⟩)),.eq (.int .i64 x),.eq (.int .i64 i),.eq (.pointer (some ⟨w.heap.size+1,i,none⟩)),.eq (.int .i64 y),.eq (.bool (decide (y<x)))] [17,18,19,20,21,22,23] rfl rfl rfl rfl ⟨?_,?_,?_,?_,?_,?_,?_,trivial⟩ ?_
     ·exact fun _ _ a _ _ _=>xM rfl (a 5 rfl)
     ·intro A w1 hA hL hS he;have h2:A.eval (.tmp 2)=.pointer (some ⟨w.heap.size,0,none⟩):=hA 2 rfl;have h17:=eT 17 (he.1 rfl);exact pZ rfl
     ·intro A w1 hA hL hS he;have h18:=eT 18 (he.1 rfl);refine ae rfl ?_;have c0:=f1 w1 (hb2.trans (hL.below.mono hb2.size));exact aC rfl rfl gZ
     ·exact fun _ _ a _ _ _=>xM rfl (a 5 rfl)
     ·intro A w1 hA hL hS he;have h3:A.eval (.tmp 3)=.pointer (some ⟨w.heap.size+1,0,none⟩):=hA 3 rfl;have h20:=eT 20 (he.1 rfl);exact pZ rfl
     ·intro A w1 hA hL hS he;have h21:=eT 21 (he.1 rfl);refine ae rfl ?_;have c0:=f2 w1 (hb2.trans (hL.below.mono hb2.size));exact aC rfl rfl gZ
     ·intro A w1 hA hL hS he;have h19:=eT 19 (he.1 rfl);have h22:=eT 22 (he.2.1 rfl);exact pZ rfl
     ·intro W3 hL3;simp only [aU,af.eq,lZ];go_frame;go_wp2;go_ret;exact⟨by rw [HR.out] <;> rfl,hb0.trans ((hb2.trans (hL3.below.mono hb2.size)).mono hb0.size)⟩
  ·obtain rfl:k=0:=by omega
   have HD:=zH (hg1.out (fun j hj=>hd.out j (by omega) hj));go_wp2;go_ret;exact⟨by rw [HD.out] <;> rfl,hb0.trans (hbr.mono hb0.size)⟩
theorem Fv (e:Ex) (w:World):Calls Tryz.prog 65 #[.agg (bR e).toArray] w (rO w (.bool e.nat)):=by
 obtain⟨x1,x2,x3,x4⟩:=e
 have hR:Ex.nat (x1,x2,x3,x4)=(decide (0<=x1) && decide (0<=x2) && decide (0<=x3) && decide (0<=x4)):=by
  rw [Bool.eq_iff_iff,Ex.nat_iff];simp [Bool.and_eq_true,and_assoc]
 generalize Ex.nat (x1,x2,x3,x4)=R at *;replace hR:=zH hR;simp only [bR]
 go_enter Tryz.func65,Tryz.ntmps65
 go_upto_region 1 with (fail)
 refine jI fun W hb0 B hsz=>?_;have e1:=B.at1 0 _ rfl;have e2:=B.at1 1 _ rfl;have e3:=B.at1 2 _ rfl;have e4:=B.at1 3 _ rfl;by_cases h1:0<=x1
 ·by_cases h2:0<=x2
  ·by_cases h3:0<=x3
   ·by_cases h4:0<=x4
    ·have HE:Hid (R=true):=zH (by rw [hR.out];simp [h1,h2,h3,h4]);go_wp2;go_ret;exact⟨by rw [HE.out] <;> rfl,hb0⟩
    ·have HE:Hid (R=false):=zH (by rw [hR.out];simp [h4]);go_wp2;go_ret;exact⟨by rw [HE.out] <;> rfl,hb0⟩
   ·have HE:Hid (R=false):=zH (by rw [hR.out];simp [h3]);go_wp2;go_ret;exact⟨by rw [HE.out] <;> rfl,hb0⟩
  ·have HE:Hid (R=false):=zH (by rw [hR.out];simp [h2]);go_wp2;go_ret;exact⟨by rw [HE.out] <;> rfl,hb0⟩
 ·have HE:Hid (R=false):=zH (by rw [hR.out];simp [h1]);go_wp2;go_ret;exact⟨by rw [HE.out] <;> rfl,hb0⟩
end Go.Proofs.YtopclbeomcggiaaGreat
end
section
namespace Q
def Hw (n:ai) (r:List ai):List ai:=if n.2≠0/\n.1.nat=true then n::r else r
theorem Hy {m:ai}:∀ {k:Nat} {p:List ai},(∀ t∈p.take k,t.1.gt m.1=true)->ins p m=p.take k++ins (p.drop k) m
 | 0,p,_=>by simp
 | k+1,[],_=>by simp
 | k+1,t::p,h=>by
  have h1:=h t (by simp);have h2:=Hy (m:=m) (k:=k) (p:=p) (fun s hs=>h s (by simp [hs]));rw [List.take_succ_cons,List.drop_succ_cons,ins,if_pos h1,h2];rfl
theorem PU (m:ai):ins [] m=Hw m []:=rfl
theorem SI {t m:ai} {r:List ai} (h:t.1=m.1):ins (t::r) m=Hw (m.1,m.2+t.2) r:=by
 rw [ins,if_neg (by rw [h,Ex.gt_irrefl];simp),if_pos h];rfl
theorem SK {t m:ai} {r:List ai} (hg:t.1.gt m.1=false) (h:t.1≠m.1):ins (t::r) m=Hw m (t::r):=by
 rw [ins,if_neg (by rw [hg];simp),if_neg h];rfl
end Q
namespace Go.Proofs.YtopclbeomcggiaaGreat
open Go.RowKit Q
theorem PV (e f:Ex) (w:World):(Op.equalIn 10000 36 (.agg (bR e).toArray) (.agg (bR f).toArray)).run Tryz.prog w=.ok (decide (e=f)) w:=by
 obtain⟨x1,x2,x3,x4⟩:=e;obtain⟨y1,y2,y3,y4⟩:=f;simp only [bR];have u3:=Tryz.underlying3;have a3:=Tryz.isAgg3;have z3:=Tryz.sizeOf3;rw [show (10000:Nat)=9999+1 from rfl,Op.equalIn];simp only [Sem.run_bind,run_underlying Tryz.underlying36,Result.andThen_ok];simp only [Std.Legacy.Range.forIn_eq_forIn_range',Std.Legacy.Range.size,Nat.sub_zero,Nat.add_sub_cancel,Nat.div_one,List.range'_succ,List.range'_zero,List.forIn_cons,List.forIn_nil];go_simp;by_cases h1:x1=y1 <;> by_cases h2:x2=y2 <;> by_cases h3:x3=y3 <;> by_cases h4:x4=y4 <;> simp [h1,h2,h3,h4]
theorem Fw {w:World} {b:Nat} {e:Ex} {r:List Value} (h:Blk w b aN (bR e++r)):w.rangeAt b 0 (bR e):=fA h.cells
theorem ul {w:World} {b:Nat} {e:Ex} {r:List Value} (h:Blk w b aN (bR e++r)):w.rangeAt b (0+4) r:=gY h.cells
end Go.Proofs.YtopclbeomcggiaaGreat
namespace Q
open Go Go.RowKit Q Go.Proofs.YtopclbeomcggiaaGreat
theorem cB.rebase {α:Type} {e:El α} {base:Nat} {w:World} {v:Value} {l:List α} (h:cB e base w v l):cB e 0 w v l:=by
 obtain⟨xs,⟨h1,h2⟩,h3⟩:=h;refine⟨xs,⟨h1,?_⟩,h3⟩;rcases h2 with h2|⟨g,cap,cur,h4,h5,h6⟩
 ·exact .inl h2
 ·exact .inr ⟨g,cap,cur,h4,Nat.zero_le _,h6⟩
end Q
namespace Go.Proofs.YtopclbeomcggiaaGreat
open Go.RowKit Q
theorem JN (vp:Value) (p:List ai) (cs:List Value) (m:ai) (w:World) (hp:ak w vp p) (hm:qf w cs m) (hkp:∀ t∈p,Rs t.2) (hkm:Rs m.2) (hpl:p.length<=100000000) :
  Calls Tryz.prog 82 #[vp,.agg cs.toArray] w (aX w (ins p m)):=by
 obtain⟨ap,cp,rfl,hcp⟩:=hp.shape;obtain⟨r,rfl,hr⟩:=hm;obtain⟨e,q⟩:=m;simp only at hr hkm ⊢;replace hkp:=zH hkp;obtain⟨RES,hRES⟩:∃ RES,RES=ins p (e,q):=⟨_,rfl⟩;rw [<- hRES];replace hRES:=zH hRES;have h4:=hr.len
 go_enter Tryz.func82,Tryz.ntmps82
 go_upto_region 1 with (fail)
 refine jI fun W hb0 B hsz=>?_;go_wp2
 go_loopw [5] (fun i wr=>∃ k:Nat,k<=p.length/\i=.int .i64 k/\Hid (∀ t∈p.take k,t.1.gt e=true)/\Below w.heap.size w wr/\Hid (Blk wr w.heap.size aN (bR e++r))) (fun i _=>p.length-(intOf i).toNat)
 case atStart=>exact⟨0,by omega,rfl,zH (by simp),hb0,zH B⟩
 case round =>
  clear hb0 B hsz;obtain⟨k,hk,rfl,hpre,hbr,hB⟩:=hrel;have BB:=hB.out;obtain⟨g,hgd⟩:∃ g:Bool,g=(match p[k]? with|some t=>t.1.gt e|none=>false):=⟨_,rfl⟩
  go_upto_region 2 with (fail)
  go_cut [8,9,10,11,12,13,14,15,16,17,18,19,20,21] (fun _ _ _ _ _ _ _ _ _ _ _ _ _ v21 wc=>v21=.bool g/\Below wr.heap.size wr wc)
  case first =>
   by_cases hkl:k<p.length
   ·have hjq:p[k]?=some p[k]:=List.getElem?_eq_getElem hkl;rw [hjq] at hgd;generalize p[k]=t at hjq hgd;obtain⟨bp,op,csp,rfl,-,hE,hC⟩:=(hp.on hbr).get hjq;obtain⟨rt,rfl,hrt⟩:=hE;change bO aN wr bp (op+k*8) _ at hC;have hkl':(k:Int)<p.length:=by omega
    simp only at hgd;refine aF mixed (none) (0) (gp.none) [.eq (.int .i64 k),.eq (.slice (some ⟨bp,op,none⟩) p.length cp),.eq (.int .i64 p.length),.eq (.bool true),.eq (.bool true),.eq (.slice (some ⟨bp,op,none⟩) p.length cp),.eq (.int .i64 k),.eq (.pointer (some ⟨bp,op+k*8,none⟩)),.eq (.pointer (some ⟨bp,op+k*8,none⟩)),.eq (.agg (bR t.1).toArray),.eq (.pointer (some ⟨w.heap.size,0,none⟩)),.eq (.agg (bR e).toArray),.ret (.bool (t.1.gt e)),.eq (.bool (t.1.gt e))] [8,9,10,11,12,13,14,15,16,17,18,19,20,21] rfl rfl rfl rfl ⟨?_,?_,?_,?_,?_,?_,?_,?_,?_,?_,?_,?_,?_,?_,trivial⟩ ?_
    ·exact fun _ _ a _ _ _=>xM rfl (a 5 rfl)
    ·exact fun _ _ a _ _ _=>xM rfl (a 0 rfl)
    ·intro A w1 hA hL hS he;have h9:=eT 9 (he.1 rfl);exact pZ rfl
    ·intro A w1 hA hL hS he;have h8:=eT 8 (he.1 rfl);have h10:=eT 10 (he.2.1 rfl);exact pZ rfl
    ·exact fun _ _ _ _ _ e=>xM rfl (e.1 rfl)
    ·exact fun _ _ a _ _ e=>yM (e.1 rfl) rfl (a 0 rfl)
    ·exact fun _ _ a _ _ e=>yM (e.1 rfl) rfl (a 5 rfl)
    ·exact fun _ _ _ _ _ e=>aJ rfl rfl (e.2.2.1 rfl) (xI rfl Tryz.underlying27 bp op k (hkl) (e.1 rfl) (e.2.1 rfl))
    ·exact fun _ _ _ _ _ e=>aJ rfl rfl (e.2.1 rfl) (yQ rfl (e.1 rfl))
    ·exact fun _ _ _ hL _ e=>aJ rfl rfl (e.2.1 rfl) (xL rfl (fA (hC.on hL.below)) Tryz.underlying36 (show (bR t.1).length=4 from rfl) (e.1 rfl))
    ·exact fun _ _ a _ _ e=>aJ rfl rfl (e.1 rfl) (yQ rfl (a 3 rfl))
    ·exact fun A w1 hA hL hS he=>aJ rfl rfl (he.2.1 rfl) (xL rfl (Fw (BB.on hL.below)) Tryz.underlying36 (show (bR e).length=4 from rfl) (he.1 rfl))
    ·intro A w1 hA hL hS he;have hb:=hS rfl;have h12:=eT 12 (he.2.2.1 rfl);have h17:=eT 17 (he.1 rfl);have h19:=eT 19 (he.2.1 rfl);have hf0:=eF A 68;exact cY (f:=68) (args:=#[.agg (bR t.1).toArray,.agg (bR e).toArray]) h12 (sW t.1 e _)
    ·exact fun _ _ _ _ _ e=>pK rfl (e.1 rfl) (e.2.1 rfl)
    ·intro W2 hL2;simp only [aU,af.eq,af.ret,lZ];go_frame;go_wp2;go_meet
     case rel=>exact⟨by rw [hgd],hL2.below⟩
   ·rw [List.getElem?_eq_none (by omega)] at hgd;obtain rfl:k=p.length:=by omega
    refine aF mixed (none) (0) (gp.none) [.eq (.int .i64 p.length),.eq (.slice ap p.length cp),.eq (.int .i64 p.length),.eq (.bool false),.eq (.bool false),.eq undef,.eq undef,.eq undef,.eq undef,.eq undef,.eq undef,.eq undef,.eq undef,.eq (.bool false)] [8,9,10,11,12,13,14,15,16,17,18,19,20,21] rfl rfl rfl rfl ⟨?_,?_,?_,?_,?_,?_,?_,?_,?_,?_,?_,?_,?_,?_,trivial⟩ ?_
    ·exact fun _ _ a _ _ _=>xM rfl (a 5 rfl)
    ·exact fun _ _ a _ _ _=>xM rfl (a 0 rfl)
    ·intro A w1 hA hL hS he;have h9:=eT 9 (he.1 rfl);exact pZ rfl
    ·intro A w1 hA hL hS he;have h8:=eT 8 (he.1 rfl);have h10:=eT 10 (he.2.1 rfl);exact pZ rfl
    ·exact fun _ _ _ _ _ e=>xM rfl (e.1 rfl)
    ·exact fun _ _ _ _ _ e=>nO false (e.1 rfl)
    ·exact fun _ _ _ _ _ e=>nO false (e.1 rfl)
    ·exact fun _ _ _ _ _ e=>nO false (e.2.2.1 rfl)
    ·exact fun _ _ _ _ _ e=>nO false (e.2.1 rfl)
    ·exact fun _ _ _ _ _ e=>nO false (e.2.1 rfl)
    ·exact fun _ _ _ _ _ e=>nO false (e.1 rfl)
    ·exact fun _ _ _ _ _ e=>nO false (e.2.1 rfl)
    ·exact fun _ _ _ _ _ e=>nO false (e.2.2.1 rfl)
    ·exact fun _ _ _ _ _ e=>ae rfl (iM rfl (e.1 rfl) rfl rfl)
    ·intro W2 hL2;simp only [aU,af.eq,af.ret,lZ];go_frame;go_wp2;go_meet
     case rel=>exact⟨by rw [hgd],hL2.below⟩
  case rest =>
   obtain⟨rfl,hbc⟩:=hcut;replace hbr:=hbr.trans (hbc.mono hbr.size);replace BB:=BB.on hbc;replace hr:=hr.on hbr;clear hB hbc
   have hgt:g=true->k<p.length/\∀ t∈p.take (k+1),t.1.gt e=true:=fun h=>by
    rw [h] at hgd;split at hgd
    ·rename_i t ht;have hkl:=(List.getElem?_eq_some_iff.1 ht).1;refine⟨hkl,fun s hs=>?_⟩;rw [List.take_add_one,ht] at hs;rcases List.mem_append.1 hs with hs|hs
     ·exact hpre.out s hs
     ·simp at hs;subst hs;exact hgd.symm
    ·cases hgd
   have hgf:g=false->∀ t rest,p.drop k=t::rest->t.1.gt e=false:=fun h t rest hd=>by
    have ht:=(mF hd).2.1;rw [h,ht] at hgd;exact hgd.symm
   replace hgt:=zH hgt;replace hgf:=zH hgf;clear hgd;cases g
   ·have hins:=Hy (m:=(e,q)) (k:=k) (p:=p) hpre.out;replace hins:=zH hins;clear hpre hgt;have hP:=hp.on hbr;have hPt:=hP.take k hk;have hPd:=hp.drop k;change ak w (.slice (if cp=k then ap else ap.map (·.add (k*8))) _ _) _ at hPd;have hsli:=fun W':World=>jL (P:=Tryz.prog) Tryz.underlying27 xR W' ap p.length cp k .i64 (k:Int) rfl (by omega);have hslo:=fun W':World=>fP (P:=Tryz.prog) Tryz.underlying27 xR W' ap p.length cp k .i64 (k:Int) rfl hk hcp;obtain⟨vr,hvr⟩:∃ vr:Value,vr=.slice (if cp=k then ap else ap.map (·.add (k*8))) (p.length - k) (cp - k):=⟨_,rfl⟩;rw [<- hvr] at hslo hPd;have hba:Below wc.heap.size wc (wc.alloc (.cells #[] aN)):=(Below.refl _ _).alloc (Nat.le_refl _) _;have hlk:([]:List ai).length+(p.take k).length<=1000000000:=by simp;omega
    have hPta:=hPt.on hba;have hmb:w.heap.size<wc.heap.size:=BB.lt;replace hvr:=zH hvr
    go_upto_region 5 with (first
     | (at_builtin;refine cZ rfl _ _ 27 rfl Tryz.underlying27 bK rfl rfl (fV aO wc) hPta hlk hba.size ?_;intro v6 w6 hown6 hl6 hv6))
    rw [List.nil_append] at hown6;have hb6:Below wc.heap.size wc w6:=hba.trans (hl6.belowAt hba.size (fun k hk=>by cases hk;exact Nat.le_refl _));have BB6:=BB.on hb6;have hP6:=hPd;replace hr:=hr.on hb6;replace hbr:=hbr.trans (hb6.mono hbr.size);clear hP hPt hPta hPd hl6 hv6 hba hlk BB hsli
    go_upto_region 6 with (fail)
    clear hslo;have hqs:∀ t∈p.drop k,Rs t.2:=fun t ht=>hkp.out t (List.mem_of_mem_drop ht);have hdl:(p.drop k).length<=p.length:=by simp
    generalize wc.heap.size=base at *;obtain⟨ar,cr,hsh,hcr⟩:=hP6.shape;subst hsh;generalize p.drop k=P at *;obtain⟨g2,hg2⟩:∃ g:Bool,g=(match P with|t::_=>decide (t.1=e)|[]=>false):=⟨_,rfl⟩
    go_cut [32,33,34,35,36,37,38,39,40,41,42,43] (fun _ _ _ _ _ _ _ _ _ _ _ v43 wc=>v43=.bool g2/\Below w6.heap.size w6 wc)
    case first =>
     cases P with
     | nil =>
      simp only [List.length_nil];refine aF mixed (none) (0) (gp.none) [.eq (.slice ar 0 cr),.eq (.int .i64 0),.eq (.bool false),.eq (.bool false),.eq undef,.eq undef,.eq undef,.eq undef,.eq undef,.eq undef,.eq undef,.eq (.bool false)] [32,33,34,35,36,37,38,39,40,41,42,43] rfl rfl rfl rfl ⟨?_,?_,?_,?_,?_,?_,?_,?_,?_,?_,?_,?_,trivial⟩ ?_
      ·exact fun _ _ a _ _ _=>xM rfl (a 7 rfl)
      ·intro A w1 hA hL hS he;have h32:=eT 32 (he.1 rfl);exact pZ rfl
      ·intro A w1 hA hL hS he;have h33:=eT 33 (he.1 rfl);have hc0:=eC A (.int .i64 0);exact pZ rfl
      ·exact fun _ _ _ _ _ e=>xM rfl (e.1 rfl)
      ·exact fun _ _ _ _ _ e=>nO false (e.1 rfl)
      ·exact fun _ _ _ _ _ e=>nO false (e.2.1 rfl)
      ·exact fun _ _ _ _ _ e=>nO false (e.2.1 rfl)
      ·exact fun _ _ _ _ _ e=>nO false (e.2.1 rfl)
      ·exact fun _ _ _ _ _ e=>nO false (e.1 rfl)
      ·exact fun _ _ _ _ _ e=>nO false (e.2.1 rfl)
      ·exact fun _ _ _ _ _ e=>nO false (e.2.2.1 rfl)
      ·exact fun _ _ _ _ _ e=>ae rfl (iM rfl (e.1 rfl) rfl rfl)
      ·intro W2 hL2;simp only [aU,af.eq,af.ret,lZ];go_frame;go_wp2;go_meet
       case rel=>exact⟨by rw [hg2],hL2.below⟩
     | cons t P2 =>
      obtain⟨bp,op,csp,rfl,-,hE,hC⟩:=hP6.get (j:=0) (t:=t) rfl;obtain⟨rt,rfl,hrt⟩:=hE;change bO aN w bp (op+0*8) _ at hC;simp only [List.length_cons] at hg2 ⊢;have heq:=fun W'=>PV t.1 e W';refine aF mixed (none) (0) (gp.none) [.eq (.slice (some ⟨bp,op,none⟩) (P2.length+1) cr),.eq (.int .i64 (P2.length+1:Nat)),.eq (.bool true),.eq (.bool true),.eq (.slice (some ⟨bp,op,none⟩) (P2.length+1) cr),.eq (.pointer (some ⟨bp,op+0*8,none⟩)),.eq (.pointer (some ⟨bp,op+0*8,none⟩)),.eq (.agg (bR t.1).toArray),.eq (.pointer (some ⟨w.heap.size,0,none⟩)),.eq (.agg (bR e).toArray),.eq (.bool (decide (t.1=e))),.eq (.bool (decide (t.1=e)))] [32,33,34,35,36,37,38,39,40,41,42,43] rfl rfl rfl rfl ⟨?_,?_,?_,?_,?_,?_,?_,?_,?_,?_,?_,?_,trivial⟩ ?_
      ·exact fun _ _ a _ _ _=>xM rfl (a 7 rfl)
      ·intro A w1 hA hL hS he;have h32:=eT 32 (he.1 rfl);exact pZ rfl
      ·intro A w1 hA hL hS he;have h33:=eT 33 (he.1 rfl);have hc0:=eC A (.int .i64 0);exact pZ rfl
      ·exact fun _ _ _ _ _ e=>xM rfl (e.1 rfl)
      ·exact fun _ _ a _ _ e=>yM (e.1 rfl) rfl (a 7 rfl)
      ·exact fun _ _ _ _ _ e=>aJ rfl rfl (e.2.1 rfl) (xI rfl Tryz.underlying27 bp op 0 (by omega) (e.1 rfl) rfl)
      ·exact fun _ _ _ _ _ e=>aJ rfl rfl (e.2.1 rfl) (yQ rfl (e.1 rfl))
      ·exact fun _ _ _ hL _ e=>aJ rfl rfl (e.2.1 rfl) (xL rfl (fA (hC.on (hbr.trans (hL.below.mono hbr.size)))) Tryz.underlying36 (show (bR t.1).length=4 from rfl) (e.1 rfl))
      ·exact fun _ _ a _ _ e=>aJ rfl rfl (e.1 rfl) (yQ rfl (a 3 rfl))
      ·exact fun A w1 hA hL hS he=>aJ rfl rfl (he.2.1 rfl) (xL rfl (Fw (BB6.on hL.below)) Tryz.underlying36 (show (bR e).length=4 from rfl) (he.1 rfl))
      ·intro A w1 hA hL hS he;have h35:=eT 35 (he.2.2.1 rfl);have h39:=eT 39 (he.1 rfl);have h41:=eT 41 (he.2.1 rfl);exact yZ h35 rfl
      ·exact fun _ _ _ _ _ e=>pK rfl (e.1 rfl) (e.2.1 rfl)
      ·intro W2 hL2;simp only [aU,af.eq,af.ret,lZ];go_frame;go_wp2;go_meet
       case rel=>exact⟨by rw [hg2],hL2.below⟩
    case rest =>
     obtain⟨rfl,hbc⟩:=hcut;replace hbr:=hbr.trans (hbc.mono hbr.size);replace BB6:=BB6.on hbc;replace hown6:=hown6.on hbc;replace hr:=hr.on hbc;clear hbc;have hlt6:=BB6.lt;have hblk:=hown6.base_le
     go_upto_if 43 with (fail)
     go_cut [7] (fun v7 wc=>∃ (c:Rat) (r':List Value) (rest:List ai),Hid (Blk wc w.heap.size aN (bR e++r'))/\Hid (gM wc r' c)/\Hid (ak w v7 rest)/\Hid (cK base wc v6 (p.take k))/\Hid (RES=p.take k++Hw (e,c) rest)/\Below w.heap.size w wc/\rest.length<=p.length)
     case first =>
      cases g2
      ·go_wp2;go_meet
       case rel =>
        refine⟨q,r,P,zH BB6,zH hr,zH hP6,zH hown6,zH ?_,hbr,hdl⟩;rw [hRES.out,hins.out]
        cases P with
        | nil=>rw [PU]
        | cons t P2 =>
         have h1:=hgf.out rfl t P2 rfl;have h2:t.1≠e:=of_decide_eq_false hg2.symm;rw [SK h1 h2]
      ·obtain⟨t,P2,rfl⟩:∃ t P2,P=t::P2:=by
        cases P with
        | nil=>cases hg2
        | cons t P2=>exact⟨t,P2,rfl⟩
       have hte:t.1=e:=of_decide_eq_true hg2.symm;have hkt:Rs t.2:=hqs t (by simp);obtain⟨bp,op,csp,rfl,-,hE,hC⟩:=hP6.get (j:=0) (t:=t) rfl;obtain⟨rt,rfl,hrt⟩:=hE;change bO aN w bp (op+0*8) _ at hC;have hPb:=hP6.drop 1;rw [List.drop_succ_cons,List.drop_zero] at hPb;change ak w (.slice (if cr=1 then some ⟨bp,op,none⟩ else (some ⟨bp,op,none⟩:Option Addr).map (·.add (1*8))) _ _) _ at hPb;simp only [List.length_cons] at hPb hcr hdl ⊢;have hl48:=hrt.len;clear hg2 hqs hgf;replace hte:=zH hte;replace hblk:=zH hblk;have hlow:=fun W':World=>fP (P:=Tryz.prog) Tryz.underlying27 xR W' (some ⟨bp,op,none⟩) (P2.length+1) cr 1 .i64 (1:Int) rfl (by omega) hcr;obtain⟨vz,hvz⟩:∃ vz:Value,vz=.slice (if cr=1 then some ⟨bp,op,none⟩ else (some ⟨bp,op,none⟩:Option Addr).map (·.add (1*8))) (P2.length+1 - 1) (cr - 1):=⟨_,rfl⟩;rw [<- hvz] at hlow hPb;replace hvz:=zH hvz;replace hlow:=zH hlow
       go_upto_region 7 with (fail)
       refine aF mixed (none) (0) (gp.none) [.eq (.pointer (some ⟨w.heap.size,0+4,none⟩)),.eq (.agg (r).toArray),.eq (.slice (some ⟨bp,op,none⟩) (P2.length+1) cr),.eq (.pointer (some ⟨bp,op+0*8,none⟩)),.eq (.pointer (some ⟨bp,op+0*8+4,none⟩)),.eq (.agg (rt).toArray),.rat (by decide) ((q+t.2)),.eq (.pointer (some ⟨w.heap.size,0+4,none⟩))] [44,45,46,47,48,49,50,51] rfl rfl rfl rfl ⟨?_,?_,?_,?_,?_,?_,?_,?_,trivial⟩ ?_
       ·exact fun _ _ a _ _ _=>ae rfl (Fe rfl (a 3 rfl))
       ·exact fun _ _ _ hL _ e=>pL rfl (ul (BB6.on hL.below)) Tryz.underlying41 (h4) (e.1 rfl)
       ·exact fun _ _ a _ _ _=>xM rfl (a 7 rfl)
       ·exact fun _ _ _ _ _ e=>pI rfl Tryz.underlying27 bp op 0 (by omega) (e.1 rfl) rfl
       ·exact fun _ _ _ _ _ e=>ae rfl (Fe rfl (e.1 rfl))
       ·exact fun _ _ _ hL _ e=>pL rfl (gY (hC.on (hbr.trans (hL.below.mono hbr.size)))) Tryz.underlying41 (hl48) (e.1 rfl)
       ·intro A w1 hA hL hS he;have hb:=hS rfl;have h45:=eT 45 (he.1 rfl);have h49:=eT 49 (he.2.1 rfl);have hf0:=eF A 81;exact cP (f:=81) (args:=#[.agg (r).toArray,.agg (rt).toArray]) (Hu _ _ _ _ _ (hr.on hb).rat (hrt.on (hbr.trans (hb.mono hbr.size))).rat hkm hkt)
       ·exact fun _ _ a _ _ _=>ae rfl (Fe rfl (a 3 rfl))
       ·intro W2 hL2;have hb2:=hL2.below;simp only [aU,af.eq,af.rat,af.of,lZ];rintro v50 h50;obtain⟨n5,a5,k5,c5,n6,a6,k6,c6,rfl⟩:=fQ h50;go_frame;have C6:=BB6.on hb2;have hown2:=hown6.on hb2;have hbr2:=hbr.trans (hb2.mono hbr.size);have hcl:(bR e++r).length=8:=by rw [List.length_append,h4];rfl
        clear hL2 BB6 hown6 hbr
        go_upto_region 8 with (refine lT rfl _ (.tmp 51) (.tmp 50) rfl w.heap.size (0+4) aN _ _ rfl rfl C6 (by rw [hcl];simp) dL dQ ?_;intro W3 R3 hl3)
        have hR3:Blk W3 w.heap.size aN (bR e++[.bool n5,.slice a5 k5 c5,.bool n6,.slice a6 k6 c6]):=by
         have e1:(bR e++r).take (0+4)=bR e:=rfl;have e2:(bR e++r).drop (0+4+4)=[]:=List.drop_of_length_le (by rw [hcl];omega);have:=R3;simp only [List.size_toArray,List.length_cons,List.length_nil] at this;rw [e1,e2,List.append_nil] at this;exact this
        have hne:v6.ownBlock≠some w.heap.size:=fun h=>by have:=(hblk.out _ h).1;omega
        replace hlow:=hlow.out;have hown3:=hown2.lr hl3 (bu (by decide)) (.inr hne);have h503:=(h50.lr hl3 (by decide)).cellsC;have hbr3:=hbr2.trans (hl3.belowAt hbr2.size (fun k hk=>by cases hk;exact Nat.le_refl _));go_wp2;go_meet
        case rel =>
         refine⟨q+t.2,_,P2,zH hR3,zH h503,zH hPb,zH hown3,zH ?_,hbr3,by omega⟩;rw [hRES.out,hins.out,SI hte.out]
     case rest =>
      clear hg2 BB6 hP6 hown6 hr hbr hRES hins hblk;obtain⟨c,r',rest,hB,hr,hrest,hown,hres,hbr,hrl⟩:=hcut;have BB:=hB.out;have h4':=hr.out.len
      go_upto_region 9 with (fail)
      have hsg:=fun W (hb:Below wc.heap.size wc W)=>xW _ _ W (hr.out.on hb).rat;obtain⟨g3,hg3⟩:∃ g:Bool,g=(if c≠0/\e.nat=true then true else false):=⟨_,rfl⟩
      go_cut [54,55,56,57,58,59,60,61,62] (fun _ _ _ _ _ _ _ _ v62 wd=>v62=.bool g3/\Below wc.heap.size wc wd)
      case first =>
       by_cases hc:c=0
       ·rw [if_neg (by simp [hc])] at hg3;rw [show iV c.num=0 by rw [hc];rfl] at hsg;refine aP trivial (none) (0) (gp.none) [.eq (.pointer (some ⟨w.heap.size,0+4,none⟩)),.eq (.agg (r').toArray),.ret (.int .i64 0),.eq (.bool false),.eq (.bool false),.eq undef,.eq undef,.eq undef,.eq (.bool false)] [54,55,56,57,58,59,60,61,62] rfl rfl rfl rfl ⟨?_,?_,?_,?_,?_,?_,?_,?_,?_,trivial⟩ ?_
        ·exact fun _ _ a _ _ _=>ae rfl (Fe rfl (a 3 rfl))
        ·exact fun _ _ _ hL _ e=>pL rfl (ul (BB.on hL.below)) Tryz.underlying41 (h4') (e.1 rfl)
        ·intro A w1 hA hL hS he;have hb:=hS rfl;have h55:=eT 55 (he.1 rfl);have hf0:=eF A 67;exact cP (f:=67) (args:=#[.agg (r').toArray]) (hsg _ hb)
        ·intro A w1 hA hL hS he;have h56:=eT 56 (he.1 rfl);have hc0:=eC A (.int .i64 0);exact pZ rfl
        ·exact fun _ _ _ _ _ e=>xM rfl (e.1 rfl)
        ·exact fun _ _ _ _ _ e=>nO false (e.1 rfl)
        ·exact fun _ _ _ _ _ e=>nO false (e.2.1 rfl)
        ·exact fun _ _ _ _ _ e=>nO false (e.2.1 rfl)
        ·exact fun _ _ _ _ _ e=>ae rfl (iM rfl (e.1 rfl) rfl rfl)
        ·intro W2 hL2;simp only [aU,af.eq,af.ret,lZ];go_frame;go_wp2;go_meet
         case rel=>exact⟨by rw [hg3],hL2.below⟩
       ·have hs0:=rD hc;generalize iV c.num=sg at hs0 hsg;have hs1:(sg != 0)=true:=by simpa using hs0
        have hg4:g3=e.nat:=by rw [hg3];cases e.nat <;> simp [hc]
        refine aP trivial (none) (0) (gp.none) [.eq (.pointer (some ⟨w.heap.size,0+4,none⟩)),.eq (.agg (r').toArray),.ret (.int .i64 sg),.eq (.bool true),.eq (.bool true),.eq (.pointer (some ⟨w.heap.size,0,none⟩)),.eq (.agg (bR e).toArray),.ret (.bool e.nat),.eq (.bool e.nat)] [54,55,56,57,58,59,60,61,62] rfl rfl rfl rfl ⟨?_,?_,?_,?_,?_,?_,?_,?_,?_,trivial⟩ ?_
        ·exact fun _ _ a _ _ _=>ae rfl (Fe rfl (a 3 rfl))
        ·exact fun _ _ _ hL _ e=>pL rfl (ul (BB.on hL.below)) Tryz.underlying41 (h4') (e.1 rfl)
        ·intro A w1 hA hL hS he;have hb:=hS rfl;have h55:=eT 55 (he.1 rfl);have hf0:=eF A 67;exact cP (f:=67) (args:=#[.agg (r').toArray]) (hsg _ hb)
        ·intro A w1 hA hL hS he;have h56:=eT 56 (he.1 rfl);have hc0:=eC A (.int .i64 0);exact pZ rfl
        ·exact fun _ _ _ _ _ e=>xM rfl (e.1 rfl)
        ·exact fun _ _ a _ _ e=>aJ rfl rfl (e.1 rfl) (yQ rfl (a 3 rfl))
        ·exact fun A w1 hA hL hS he=>aJ rfl rfl (he.2.1 rfl) (xL rfl (Fw (BB.on hL.below)) Tryz.underlying36 (show (bR e).length=4 from rfl) (he.1 rfl))
        ·intro A w1 hA hL hS he;have hb:=hS rfl;have h58:=eT 58 (he.2.1 rfl);have h60:=eT 60 (he.1 rfl);have hf0:=eF A 65;exact cY (f:=65) (args:=#[.agg (bR e).toArray]) h58 (Fv e _)
        ·exact fun _ _ _ _ _ e=>pK rfl (e.1 rfl) (e.2.1 rfl)
        ·intro W2 hL2;simp only [aU,af.eq,af.ret,lZ];go_frame;go_wp2;go_meet
         case rel=>exact⟨by rw [hg4],hL2.below⟩
      case rest =>
       obtain⟨rfl,hbc⟩:=hcut;clear hsg;replace BB:=BB.on hbc;replace hr:=hr.out.on hbc;replace hrest:=hrest.out;replace hown:=hown.out.on hbc;replace hbr:=hbr.trans (hbc.mono hbr.size);clear hbc hB;have hbase:∀ k,v6.ownBlock=some k->w.heap.size<=k:=fun k hk=>by have:=(hown.base_le k hk).1;omega
       have hbl:base<=wc.heap.size\/v6.ownBlock=none:=by
        cases hv:v6.ownBlock with
        | none=>exact .inr rfl
        | some k=>have:=hown.base_le k hv;exact .inl (by omega)
       have htl:(p.take k).length<=p.length:=by simp;omega
       have hne':some w.heap.size≠v6.ownBlock:=fun h=>by have:=(hown.base_le _ h.symm).1;omega
       cases g3
       ·have hi:Hw (e,c) rest=rest:=by
         unfold Hw;split
         ·rename_i h;rw [if_pos h] at hg3;cases hg3
         ·rfl
        rw [hi] at hres;clear hi hg3;have hrw:=hrest.on hbr;have hlen:(p.take k).length+rest.length<=1000000000:=by omega
        go_wp2_with (at_builtin;refine cZ rfl _ _ 27 rfl Tryz.underlying27 bK rfl rfl (hown.rebase) hrw hlen (Nat.zero_le _) ?_;intro v8 w8 hown8 hl8 hv8)
        go_ret;exact⟨_,rfl,by rw [hres.out];exact hown8.isSl,hbr.trans (hl8.belowAt hbr.size hbase)⟩
       ·have hi:Hw (e,c) rest=(e,c)::rest:=by
         unfold Hw;split
         ·rfl
         ·rename_i h;rw [if_neg h] at hg3;cases hg3
        rw [hi] at hres;clear hi hg3;have h8:(bR e++r').length=8:=by rw [List.length_append,h4'];rfl
        have hown0:=hown.rebase
        go_upto_region 10 with (fail)
        refine aP trivial (v6.ownBlock) (aN) (hown.okr) [.eq (v6),.eq (.agg (bR e++r').toArray),.new1 aO fw ((e,c)),.row aO (0) wc.heap.size (p.take k++[(e,c)])] [63,64,65,66] rfl rfl rfl rfl ⟨?_,?_,?_,?_,trivial⟩ ?_
        ·exact fun _ _ a _ _ _=>xM rfl (a 6 rfl)
        ·exact fun _ _ a hL _ _=>pL rfl ((BB.lr hL hne').cells.range) Tryz.underlying43 (h8) (a 3 rfl)
        ·intro A w1 hA hL hS he;have h64:=eT 64 (he.1 rfl);refine ae rfl ?_;have hE:(aO:El _).E w1 _ ((e,c)):=⟨_,rfl,hr.lr hL (by decide)⟩;refine fo rfl rfl ((hown.okr).lr hL) hE (bC rfl ?_) (fun _ _ h=>h);simp only [List.map_toArray,List.map_cons,List.map_nil,h64];exact bN _ _ ((aO).len hE)
        ·intro A w1 hA hL hS he;have hb:=hS rfl;have h63:=eT 63 (he.1 rfl);obtain⟨v65,h65,f65⟩:=fT 65 (he.2.1 rfl);exact ae rfl (dO rfl rfl rfl Tryz.underlying27 bK h63 h65 (hown0.on hb) rfl rfl (dV f65) (by simp only [List.length_cons,List.length_nil];omega) (Nat.zero_le _) hL.1.size (fun _ _ h1 h2=>⟨h1,h2⟩))
        ·intro W6 hL6;simp only [aU,af.eq,af.new1,af.row,af.asPure,af.of,af.fragile,lZ];rintro v65 - v66 ⟨hown6,hnew⟩;go_frame;have hbW6:=hbr.trans (hL6.belowAt hbr.size hbase);have hrw:=hrest.on hbW6;have hlen:(p.take k++[(e,c)]).length+rest.length<=1000000000:=by simp only [List.length_append,List.length_cons,List.length_nil];omega
         have hwd:w.heap.size<=wc.heap.size:=hbr.size
         have hbase6:∀ k,v66.ownBlock=some k->w.heap.size<=k:=fun k hk=>by
          rcases hnew with h|⟨k',h,hk'⟩
          ·exact hbase k (by rw [<- h];exact hk)
          ·rw [h] at hk;cases hk;omega
         go_wp2_with (at_builtin;refine cZ rfl _ _ 27 rfl Tryz.underlying27 bK rfl rfl hown6 hrw hlen (Nat.zero_le _) ?_;intro v8 w8 hown8 hl8 hv8)
         go_ret;exact⟨_,rfl,by rw [hres.out];simpa using hown8.isSl,hbW6.trans (hl8.belowAt hbW6.size hbase6)⟩
   ·obtain⟨hkl,hpre'⟩:=hgt.out rfl;clear hgf;go_wp2;go_roundw
    case rel=>exact⟨k+1,by omega,by go_num,zH hpre',hbr,zH BB⟩
    case measure=>simp [intOf];omega
end Go.Proofs.YtopclbeomcggiaaGreat
end
section
namespace Q
theorem rabs_int (k:Int):bH (k:Rat)=(k.natAbs:Rat):=by
 unfold bH;rcases Int.lt_or_le k 0 with h|h
 ·rw [if_pos (by rw [show (0:Rat)=((0:Int):Rat) from rfl];exact Rat.intCast_lt_intCast.2 h)];rw [<- Rat.intCast_neg,<- Rat.intCast_natCast];congr 1;omega
 ·rw [if_neg (by rw [show (0:Rat)=((0:Int):Rat) from rfl];intro h';have:=Rat.intCast_lt_intCast.1 h';omega)];rw [<- Rat.intCast_natCast];congr 1;omega
theorem JO {l:List ai} {k:Nat} {t:ai} (h:l[k]?=some t):canon (l.take (k+1))=ins (canon (l.take k)) t:=by
 rw [List.take_add_one,h];simp [canon]
end Q
namespace Go.Proofs.YtopclbeomcggiaaGreat
open Go.RowKit Q
theorem Hz {D B:Nat} {c:Rat} (hD:0<D) (h:Dv D c) (hB:bH c<=(B:Rat)):c.den∣D/\c.num.natAbs<=B*D:=by
 obtain⟨k,hk⟩:=h
 have hD0:(D:Rat)≠0:=by
  intro h;have:D=0:=Rat.natCast_inj.1 (by rw [h];rfl);omega
 have hc:c=Rat.divInt k D:=by
  rw [Rat.divInt_eq_div,Rat.intCast_natCast,<- hk];grind
 obtain⟨e1,e2⟩:=rf k D (by omega);rw [<- hc] at e1 e2
 have hden:c.den∣D:=by
  refine Int.natCast_dvd_natCast.1 ⟨(Int.gcd k D:Int),?_⟩;rw [e2];exact (Int.ediv_mul_cancel (Int.gcd_dvd_right _ _)).symm
 refine⟨hden,?_⟩;have h1:bH c*(D:Rat)<=(B:Rat)*(D:Rat):=Rat.mul_le_mul_of_nonneg_right hB Rat.natCast_nonneg;have h2:bH c*(D:Rat)=bH (k:Rat):=by rw [<- hk,jo,bJ (c:=(D:Rat)) Rat.natCast_nonneg]
 rw [h2,rabs_int,<- Rat.natCast_mul] at h1;have h3:k.natAbs<=B*D:=Rat.natCast_le_natCast.1 h1;have h4:c.num.natAbs<=k.natAbs:=by rw [e1];exact Int.natAbs_ediv_le_natAbs _ _
 omega
theorem JP {B D a b:Nat} (h:B<2 ^ a) (h':D<2 ^ b):B*D<2 ^ (a+b):=by rw [Nat.pow_add];exact Nat.mul_lt_mul'' h h'
theorem Bh {s:Sz} {c:Rat} (hs:s.ok) (h:Dv s.D c) (hB:bH c<=(s.B:Rat)):Rs c:=by
 obtain⟨h1,h2⟩:=Hz hs.1 h hB;have hd:=Nat.le_of_dvd hs.1 h1;obtain⟨p1,p2,p3,p4,p5⟩:=hs;refine⟨by omega,?_⟩;have:=jH (Nat.lt_of_le_of_lt h2 (JP (a:=1000) (b:=16) p3 (show s.D<2 ^ 16 from p2)));omega
end Go.Proofs.YtopclbeomcggiaaGreat
namespace Q
open Go Go.RowKit Q Go.Proofs.YtopclbeomcggiaaGreat
def Sz.okw (s:Sz):Prop:=0<s.D/\aI s.D<=iT / 32/\aI s.B<=iT / 32/\s.E<1000000/\s.N<=100000000
theorem Sz.ok.w {s:Sz} (h:s.ok):s.okw:=by
 obtain⟨h1,h2,h3,h4,h5⟩:=h;exact⟨h1,Nat.le_trans (vO h2) (by unfold iT;omega),Nat.le_trans (jH h3) (by unfold iT;omega),h4,by omega⟩
theorem H5 {s:Sz} {c:Rat} (hs:s.okw) (h:Dv s.D c) (hB:bH c<=(s.B:Rat)):Rk c:=by
 obtain⟨h1,h2⟩:=Hz hs.1 h hB;have hd:=Nat.le_of_dvd hs.1 h1;obtain⟨p1,p2,p3,p4,p5⟩:=hs;refine⟨Nat.le_trans (iC hd) (Nat.le_trans p2 (by unfold iT;omega)),?_⟩;have h3:=iC h2;have h4:=jV s.B s.D;unfold iT at *;omega
theorem Bd.rs {s:Sz} {l:List ai} (h:Bd s l) (hs:s.ok):∀ t∈l,Rs t.2:=fun t ht=>Bh hs (h.d t ht) (Rat.le_trans (sF ht) h.b)
end Q
namespace Go.Proofs.YtopclbeomcggiaaGreat
open Go.RowKit Q
end Go.Proofs.YtopclbeomcggiaaGreat
namespace Q
open Go Go.RowKit Q Go.Proofs.YtopclbeomcggiaaGreat
theorem Bd.inRw {s:Sz} {l:List ai} (h:Bd s l) (hs:s.okw):∀ t∈l,InR t.1:=fun t ht=>InR.of (K:=s.E) (by have:=hs.2.2.2.1;omega) (h.e t ht)
theorem Bd.inR {s:Sz} {l:List ai} (h:Bd s l) (hs:s.ok):∀ t∈l,InR t.1:=h.inRw hs.w
end Q
namespace Go.Proofs.YtopclbeomcggiaaGreat
open Go.RowKit Q
end Go.Proofs.YtopclbeomcggiaaGreat
namespace Q
open Go Go.RowKit Q Go.Proofs.YtopclbeomcggiaaGreat
theorem Bd.len {s:Sz} {l:List ai} (h:Bd s l) (hs:s.ok):l.length<=100000000:=by have:=h.n;have:=hs.2.2.2.2;omega
end Q
namespace Go.Proofs.YtopclbeomcggiaaGreat
open Go.RowKit Q
end Go.Proofs.YtopclbeomcggiaaGreat
namespace Q
open Go Go.RowKit Q Go.Proofs.YtopclbeomcggiaaGreat
theorem Bd.take {s:Sz} {l:List ai} (h:Bd s l) (k:Nat):Bd s (l.take k):=h.sub (List.take_sublist _ _)
end Q
namespace Go.Proofs.YtopclbeomcggiaaGreat
open Go.RowKit Q
theorem H7 {s:Sz}:∀ {l:List ai},(∀ t∈l,Dv s.D t.2)->∀ e,Dv s.D (cf l e)/\bH (cf l e)<=bD l
 | [],_,e=>⟨by rw [jd];exact Dv.zero _,by rw [jd];simp only [bD,bH];split <;> grind⟩
 | t::l,h,e=>by
  obtain⟨h1,h2⟩:=H7 (s:=s) (l:=l) (fun t ht=>h t (by simp [ht])) e;rw [bG];have h3:=h t (by simp);have h4:=eu t.2;split
  ·refine⟨h3.add h1,?_⟩;have:=Ay t.2 (cf l e);simp only [bD];grind
  ·have e0:0+cf l e=cf l e:=by grind
   rw [e0];refine⟨h1,?_⟩;simp only [bD];grind
end Go.Proofs.YtopclbeomcggiaaGreat
namespace Q
open Go Go.RowKit Q Go.Proofs.YtopclbeomcggiaaGreat
theorem Bd.rkw {s:Sz} {l:List ai} (h:Bd s l) (hs:s.okw):∀ t∈l,Rk t.2:=fun t ht=>H5 hs (h.d t ht) (Rat.le_trans (sF ht) h.b)
theorem Bd.oklw {s:Sz} {l:List ai} (h:Bd s l) (hs:s.okw):SC l where
 n:=Nat.le_trans h.n hs.2.2.2.2
 r:=fun t ht=>⟨h.inRw hs t ht,h.rkw hs t ht⟩
 c:=fun k e=>by
  obtain⟨h1,h2⟩:=H7 (s:=s) (h.take k).d e;exact H5 hs h1 (Rat.le_trans h2 (h.take k).b)
end Q
namespace Go.Proofs.YtopclbeomcggiaaGreat
open Go.RowKit Q
theorem DW (v:Value) (l:List ai) (s:Sz) (w:World) (h:ak w v l) (hb:Bd s l) (hs:s.ok):Calls Tryz.prog 43 #[v] w (aX w (canon l)):=by
 obtain⟨ap,cp,rfl,hcp⟩:=h.shape;have hlen:=hb.len hs;have hrs:=zH (hb.rs hs);have hck:=zH (fun k=>(hb.take k).canon.rs hs);have hcl:=zH (fun k=>(hb.take k).canon.len hs);clear hb
 go_enter Tryz.func43,Tryz.ntmps43
 go_wp2;have hb0:Below w.heap.size w (w.alloc (.cells #[] aN)):=(Below.refl _ _).alloc (Nat.le_refl _) _;have hst:ak (w.alloc (.cells #[] aN)) (.slice (some ⟨w.heap.size,0,none⟩) 0 0) []:=(fV aO w).isSl;change Below w.heap.size w (w.alloc (.cells #[] 43)) at hb0;change ak (w.alloc (.cells #[] 43)) _ _ at hst
 go_loopw [3,4] (fun o i wr=>∃ k:Nat,k<=l.length/\i=.int .i64 k/\Hid (ak wr o (canon (l.take k)))/\Below w.heap.size w wr) (fun _ i _=>l.length-(intOf i).toNat)
 case atStart=>exact⟨0,by omega,rfl,zH hst,hb0⟩
 case round =>
  clear hst hb0;obtain⟨k,hk,rfl,hP,hbr⟩:=hrel;by_cases hkl:k<l.length
  ·have hjq:l[k]?=some l[k]:=List.getElem?_eq_getElem hkl;generalize l[k]=t at hjq;obtain⟨bp,op,csp,rfl,-,hE,hC⟩:=(h.on hbr).get hjq;change bO aN wr bp (op+k*8) _ at hC;have hkl':(k:Int)<l.length:=by omega
   have hr:=hC.range;have h8:csp.length=8:=aO.len hE;have hin:=JN u3 (canon (l.take k)) csp t wr hP.out hE (hck.out k) (hrs.out t (List.mem_of_getElem? hjq)) (hcl.out k);rw [<- JO hjq] at hin
   go_wp2_with (first
    | (refine aj rfl _ _ 26 rfl aN Tryz.underlying26 _ 8 96 (by kernel_rfl) _ _ _ rfl .i64 _ rfl k rfl hkl bp op rfl ?_)
    | (refine wpList_load_mid rfl 43 _ rfl _ _ rfl _ _ hr Tryz.underlying43 rfl (by rw [h8];kernel_rfl) ?_)
    | (go_at_call 82;refine hin.mono ?_;rintro en w3 ⟨v3,rfl,hv3,hb3⟩))
   go_roundw
   case rel=>exact⟨k+1,by omega,by go_num,zH hv3,hbr.trans (hb3.mono hbr.size)⟩
   case measure=>simp [intOf];omega
  ·obtain rfl:k=l.length:=by omega
   rw [List.take_of_length_le (Nat.le_refl _)] at hP;go_wp2;go_ret;exact⟨_,rfl,hP.out,hbr⟩
end Go.Proofs.YtopclbeomcggiaaGreat
end
section
namespace Go.Proofs.YtopclbeomcggiaaGreat
open Go.RowKit Q Go.WideMaps Go.Maps
def NK (w:World) (L:List (List ai)) (e:Ending) (w':World):Prop:=∃ g vs,e=.returned (.slice (some ⟨g,0,none⟩) vs.length vs.length)/\Blk w' g polyT vs/\w.heap.size<=g/\jR w.heap.size w' vs L/\Below w.heap.size w w'
theorem uX (vp:Value) (p:List ai) (v:Nat) (w:World) (hp:ak w vp p) (hv:v<4) (hn:dh p) (hd:aG p v<=100000000) (hpl:p.length<=100000000):Calls Tryz.prog 62 #[vp,.int .i64 v] w (NK w (aB p v)):=by
 have hcall:=jF vp p v w hp hv hpl;have hdg:=ug p v;have hlt:∀ t∈p,t.1.get v<((aG p v+1).toNat:Int):=EU;have hR:aB p v=mE p v (aG p v+1).toNat p.length:=by rw [mE,List.take_of_length_le (Nat.le_refl _)];rfl
 rw [hR];clear hR;obtain⟨ap,cp,rfl,hcp⟩:=hp.shape;generalize aG p v=d at *;obtain⟨N,rfl⟩:∃ N:Nat,d=(N:Int) - 1:=⟨(d+1).toNat,by omega⟩;have hNe:((N:Int) - 1+1).toNat=N:=by omega
 rw [hNe] at hlt ⊢;have hN1:N<=100000001:=by omega
 have hwN:IntKind.i64.wrap ((N:Int)-1+1)=(N:Int):=by rw [mJ (by omega)];omega
 have hv4:(v:Int)<4:=by omega
 replace hn:=zH hn;replace hlt:=zH hlt;clear hNe hdg hd
 go_enter Tryz.func62,Tryz.ntmps62
 go_wp2_with (first
  | (go_at_call 53;refine hcall.mono ?_;rintro en w1 ⟨rfl,hb1⟩)
  | (at_make;refine bQ rfl _ _ _ rfl polyT (.slice none 0 0) 1 24 Tryz.underlying75 (by kernel_rfl) rfl rfl .i64 .i64 _ _ N rfl rfl rfl rfl (by omega) (by omega) ?_;intro W hB hbW))
 have hb0:=hb1.trans (hbW.mono hb1.size);have hog:w.heap.size<=w1.heap.size:=hb1.size;have hB0:Blk W w1.heap.size polyT (List.replicate N (.slice none 0 0)):=hB;have hR0:jR w.heap.size W (List.replicate N (.slice none 0 0)) (mE p v N 0):=by rw [Hm];exact jR.start _ _ _
 clear hB hbW hb1;generalize w1.heap.size=og at *;go_wp2
 go_loopw [16] (fun i wr=>∃ (k:Nat) (vs:List Value),k<=p.length/\i=.int .i64 k/\vs.length=N/\Hid (Blk wr og polyT vs)/\Hid (jR w.heap.size wr vs (mE p v N k))/\Below w.heap.size w wr) (fun i _=>p.length-(intOf i).toNat)
 case atStart=>exact⟨0,_,by omega,rfl,by simp,zH hB0,zH hR0,hb0⟩
 case round =>
  clear hB0 hR0 hb0;obtain⟨k,vs,hk,rfl,hvl,hB,hR,hb⟩:=hrel;by_cases hkl:k<p.length
  ·have hjq:p[k]?=some p[k]:=List.getElem?_eq_getElem hkl;obtain⟨b'',off',cs,rfl,-,hE,hC⟩:=(hp.on hb).get hjq;generalize p[k]=t at hjq hE;obtain⟨e,q⟩:=t;obtain⟨r,rfl,n1,x1,k1,d1,n2,x2,k2,d2,rfl,i1,i2⟩:=hE;have hr:=hC.range;have hkl':(k:Int)<p.length:=by omega
   have hmem:=List.mem_of_getElem? hjq;have hrat:=zH (show bV wr (.agg #[.bool n1,.slice x1 k1 d1,.bool n2,.slice x2 k2 d2]) q from⟨n1,x1,k1,d1,n2,x2,k2,d2,rfl,i1,i2⟩);have hmax:0<=e.get v:=Ex.nat_get (hn.out _ hmem) v;have hltN:e.get v<(N:Int):=hlt.out _ hmem;obtain⟨m,hm⟩:∃ m:Nat,e.get v=m:=⟨(e.get v).toNat,by omega⟩;have hmN:m<N:=by omega
   have dG:=Hl p v N hjq hm hmN;have hat:=sQ e v hv [.bool n1,.slice x1 k1 d1,.bool n2,.slice x2 k2 d2];have hset:=wD e v hv 0 [.bool n1,.slice x1 k1 d1,.bool n2,.slice x2 k2 d2];rw [hm] at hat;simp only at dG;generalize hE':e.put v 0=E' at hset dG;clear hm hmax hltN hE' hC i1 i2;obtain⟨e1,e2,e3,e4⟩:=e;obtain⟨g1,g2,g3,g4⟩:=E';simp only [bR,List.cons_append,List.nil_append] at hr hat hset;have hcur:vs[m]?=some vs[m]:=List.getElem?_eq_getElem (by omega);generalize vs[m]=cur at hcur;have hown:=hR.out.own m cur _ hcur (oH p v k hmN)
   go_upto_region 5 with (first
    | (refine aj rfl _ _ 27 rfl aN Tryz.underlying27 _ 8 96 (by kernel_rfl) _ _ _ rfl .i64 _ rfl k rfl hkl b'' off' rfl ?_)
    | (refine wpList_load_mid rfl 43 _ rfl _ _ rfl _ _ hr Tryz.underlying43 rfl (by kernel_rfl) ?_))
   refine jI fun W2 hb2 Bx hsz2=>?_;have hogl:og<wr.heap.size:=hB.out.lt;have hwl:w.heap.size<=wr.heap.size:=hb.size;have hblk:∀ (n:Nat) v,vs[n]?=some v->v.ownBlock≠some wr.heap.size:=fun n v hv he=>by have:=(hR.out.blk hv he).2;omega
   have hbe:=hown.base_le
   have hog2:cur.ownBlock≠some og:=by
    intro he;have h1:=(hown.okr og he).2;have h2:=hB.out.noOther;have:=h1 _ _ _ hB.out;exact absurd this (by decide)
   replace hblk:=zH hblk;replace hbe:=zH hbe;have hB2:=zH (hB.out.on hb2);have hR2:=zH (hR.out.on hb2);have hbW2:=hb.trans (hb2.mono hb.size);have hrat2:=hrat.out.on hb2;have z:=Bx.at1 v _ hat;have hf:=Bx.frozen v;clear hb2 hB hR hr hrat hb hown;generalize wr.heap.size=r at *
   go_upto_region 7 with (fail)
   have hl3:=aY (j:=v) Bx (.int .i64 0);have B3:=Bx.set v (.int .i64 0);have hb3:Below w.heap.size W2 (W2.setCell ⟨r,v,none⟩ (.int .i64 0)):=bI (by omega) _;rw [hset] at B3;generalize W2.setCell ⟨r,v,none⟩ (.int .i64 0)=W3 at *;have hB3:=hB2.out.lr hl3 (by simp;omega);have hR3:=hR2.out.lrB hl3 (by decide) hblk.out;have hrat3:=hrat2.lr hl3 (by decide);have hbW3:=hbW2.trans hb3;have hsz3:r<W3.heap.size:=B3.lt;clear z hf hset hat hl3 hB2 hR2 hrat2 hb3 hbW2 Bx;have hown:=hR3.own m cur _ hcur (oH p v k hmN);have hner:some r≠cur.ownBlock:=fun h=>hblk.out m cur hcur h.symm;have hneo:some og≠cur.ownBlock:=fun h=>hog2 h.symm;have hcell:∀ w1,Lr cur.ownBlock aN W3 w1->w1.cell? ⟨og,m,none⟩=some cur:=fun w1 hL=>by rw [(hB3.lr hL hneo).cell m];exact hcur
   have hlenL:(aD (p.take k) v m).length<=100000000:=by
    unfold aD;rw [List.length_map];have:=List.length_filter_le (fun t:ai=>decide (t.1.get v=(m:Int))) (p.take k);rw [List.length_take] at this;omega
   go_upto_region 7 with (fail)
   refine aF mixed (cur.ownBlock) (aN) (hown.okr) [.eq (.slice (some ⟨og,0,none⟩) N N),.eq (.int .i64 (m:Int)),.eq (.slice (some ⟨og,0,none⟩) N N),.eq (.int .i64 (m:Int)),.eq (.pointer (some ⟨og,0+m*1,none⟩)),.eq (cur),.eq (.agg #[.int .i64 g1,.int .i64 g2,.int .i64 g3,.int .i64 g4,.bool n1,.slice x1 k1 d1,.bool n2,.slice x2 k2 d2]),.new1 aO fw (((g1,g2,g3,g4),q)),.row aO (w.heap.size) W3.heap.size (aD (p.take k) v m++[((g1,g2,g3,g4),q)]),.eq (.pointer (some ⟨og,0+m*1,none⟩))] [27,28,29,30,31,32,33,34,35,36] rfl rfl rfl rfl ⟨?_,?_,?_,?_,?_,?_,?_,?_,?_,?_,trivial⟩ ?_
   ·exact fun _ _ a _ _ _=>xM rfl (a 5 rfl)
   ·exact fun _ _ a _ _ _=>xM rfl (a 8 rfl)
   ·exact fun _ _ a _ _ _=>xM rfl (a 5 rfl)
   ·exact fun _ _ a _ _ _=>xM rfl (a 8 rfl)
   ·exact fun _ _ _ _ _ e=>pI rfl Tryz.underlying75 og 0 m (hmN) (e.1 rfl) (e.2.1 rfl)
   ·intro A w1 hA hL hS he;have h31:=eT 31 (he.1 rfl);refine ae rfl ?_;have c0:=hcell w1 hL;exact aC rfl rfl gZ
   ·intro A w1 hA hL hS he;have h7:A.eval (.tmp 7)=.pointer (some ⟨r,0,none⟩):=hA 7 rfl;have c0:=((B3.lr hL hner)).at1 0 _ rfl;have c1:=((B3.lr hL hner)).at1 1 _ rfl;have c2:=((B3.lr hL hner)).at1 2 _ rfl;have c3:=((B3.lr hL hner)).at1 3 _ rfl;have c4:=((B3.lr hL hner)).at1 4 _ rfl;have c5:=((B3.lr hL hner)).at1 5 _ rfl;have c6:=((B3.lr hL hner)).at1 6 _ rfl;have c7:=((B3.lr hL hner)).at1 7 _ rfl;exact pZ rfl
   ·intro A w1 hA hL hS he;have hb:=hS rfl;have h33:=eT 33 (he.1 rfl);refine ae rfl ?_;have hE:(aO:El _).E w1 _ (((g1,g2,g3,g4),q)):=⟨_,rfl,(hrat3.on hb).cellsC⟩;refine fo rfl rfl ((hown.okr).lr hL) hE (bC rfl ?_) (fun _ _ h=>h);simp only [List.map_toArray,List.map_cons,List.map_nil,h33];exact bN _ _ ((aO).len hE)
   ·intro A w1 hA hL hS he;have hb:=hS rfl;have h32:=eT 32 (he.1 rfl);obtain⟨v34,h34,f34⟩:=fT 34 (he.2.1 rfl);exact ae rfl (dO rfl rfl rfl Tryz.underlying27 bK h32 h34 (hown.on hb) rfl rfl (dV f34) (by simp;omega) (Nat.le_trans hbW3.size hb.size) hL.1.size (fun _ _ h1 h2=>⟨h1,h2⟩))
   ·exact fun _ _ _ _ _ e=>pI rfl Tryz.underlying75 og 0 m (hmN) (e.1 rfl) (e.2.1 rfl)
   ·intro w5 hL;simp only [aU,af.eq,af.new1,af.row,af.of,af.fragile,lZ];rintro v34 - v35 ⟨hown5,hnew⟩;go_frame;obtain⟨ca,n5,cc,rfl⟩:∃ ca n cc,v35=.slice ca n cc:=let ⟨a,c,h,_⟩:=hown5.shape;⟨a,_,c,h⟩;have hBo:=hB3.lr hL hneo;have z:=hBo.at1 m cur hcur;have hf:=hBo.frozen m;have hR5:=hR3.set hcur hL hown5 hnew;rw [<- dG] at hR5;have hbW5:=hbW3.trans (hL.belowAt hbW3.size (fun k hk=>(hbe.out k hk).1));clear hcell hown;go_wp2;have hl6:=aY (j:=m) hBo (.slice ca n5 cc);go_roundw
    case measure=>simp [intOf];omega
    case rel=>exact⟨k+1,_,by omega,by go_num,by simp;exact hvl,zH (hBo.set m _),zH (hR5.lr hl6 (by decide) (by decide)),hbW5.trans (hl6.belowAt hbW5.size (fun k hk=>by cases hk;exact hog))⟩
  ·obtain rfl:k=p.length:=by omega
   go_wp2;go_ret;exact⟨og,vs,by rw [hvl];rfl,hB.out,hog,hR.out,hb⟩
theorem uY (vp:Value) (p:List ai) (v:Nat) (w:World) (hp:ak w vp p) (hv:v<4) (hn:dh p) (hd:aG p v<=100000000) (hpl:p.length<=100000000):Calls Tryz.prog 62 #[vp,.int .i64 v] w (GZ w (aB p v)) :=
 (uX vp p v w hp hv hn hd hpl).mono fun _ _ ⟨_,_,he,hB,_,hR,hb⟩=>⟨_,he,JM hB hR,hb⟩
end Go.Proofs.YtopclbeomcggiaaGreat
end
