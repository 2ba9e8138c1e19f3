/- The reference's rational numbers: Of, of, Whole, Valid, Sign, Add, Mul, Same. -/
import Derived.Test.YtopclbeomcggiaaGreatC02
import Derived.Test.YtopclbeomcggiaaGreatC20
import Derived.Test.YtopclbeomcggiaaGreatC21
set_option linter.unusedVariables false
set_option linter.unusedSimpArgs false
set_option maxHeartbeats 16000000
set_option maxRecDepth 100000
namespace Go.Proofs.YtopclbeomcggiaaGreat
open Go.RowKit Q
def Rs (q:Rat):Prop:=q.den<65536/\nbits q.num.natAbs<=1000000
theorem Rs.rk {q:Rat} (h:Rs q):Rk q:=Rk.small h.1 (by have:=h.2;unfold CAP;omega)
theorem Rs.num {q:Rat} (h:Rs q):nbits q.num.natAbs<=CS / 4:=by have:=h.2;unfold CS;omega
theorem Rs.den {q:Rat} (h:Rs q):nbits ((q.den:Int)).natAbs<=CS / 4:=by have:=den_bits h.1;rw [Int.natAbs_natCast];unfold CS;omega
theorem cs4 {x:Int} (h:nbits x.natAbs<=CS / 4):nbits x.natAbs<=CS:=by unfold CS at *;omega
theorem cs2 {x:Int} (h:nbits x.natAbs<=CS / 4):nbits x.natAbs<=CS / 2:=by unfold CS at *;omega
theorem crossS {p q:Rat} (h:Rs p) (h':Rs q):nbits (p.num*(q.den:Int)).natAbs<=CS / 8:=by
 have:=nbits_mul p.num.natAbs q.den;have:=h.2;have:=den_bits h'.1;rw [Int.natAbs_mul,Int.natAbs_natCast];unfold CS;omega
theorem densS {p q:Rat} (h:Rs p) (h':Rs q):Fits ((p.den:Int)*q.den)/\nbits ((p.den:Int)*q.den).natAbs<=CS / 4/\(p.den:Int)*q.den≠0:=by
 obtain⟨h2,h3⟩:=dens_fit h.rk h'.rk
 have h1:Fits ((p.den:Int)*q.den):=by
  have a1:=h.1;have a2:=h'.1;have:=Nat.mul_le_mul (show p.den<=65535 by omega) (show q.den<=65535 by omega);unfold Fits;rw [Int.natAbs_mul,Int.natAbs_natCast,Int.natAbs_natCast];omega
 refine⟨h1,?_,h3⟩;have:=nbits_le (n:=((p.den:Int)*q.den).natAbs) (k:=32) (by unfold Fits at h1;omega);unfold CS;omega
theorem of2_any (n1 n2:Bool) (m1 m2:Value) (z1 z2:Int) (w:World) (h1:IsInt w n1 m1 z1) (h2:IsInt w n2 m2 z2) (c1:nbits z1.natAbs<=CS / 4) (c2:nbits z2.natAbs<=CS / 4) (hz:z2≠0) (hf:Fits z2) :
  Calls Tryz.prog 104 #[.agg #[.bool n1,m1],.agg #[.bool n2,m2]] w (RetRatE w (Rat.divInt z1 z2) 0):=by
 obtain⟨a1,k1,q1,rfl,-,-⟩:=h1.shape;obtain⟨a2,k2,q2,rfl,-,-⟩:=h2.shape;obtain⟨x,d,hd,ed,ex,hneg,hpos,hn,hdn⟩:=divInt_any z1 z2 hz;have hsg:(sgnZ z2 == 0)=false:=by unfold sgnZ;rw [if_neg hz];split <;> rfl
 generalize Rat.divInt z1 z2=Qr at *;have c1':=cs4 c1;have c2':=cs4 c2;rw [<- ed] at c2;rw [<- ex] at c1;replace hf:Fits d:=by unfold Fits at *;rw [ed];exact hf
 replace hn:=zH hn;replace hdn:=zH hdn
 go_enter Tryz.func104,Tryz.ntmps104
 go_upto_region 1 with (fail)
 refine abs3 fun W hb0 B1 B2 B3 hsz=>?_;have y1:=B2.at1 0 _ rfl;have y2:=B2.at1 1 _ rfl
 go_upto_region 3 with (go_at_call 100;refine (sign1_any _ _ _ W (h2.on hb0)).mono ?_;rintro e w0 ⟨rfl,hbs⟩)
 replace B1:=B1.on hbs;replace B2:=B2.on hbs;replace B3:=B3.on hbs;replace hb0:=hb0.trans (hbs.mono hb0.size);clear y1 y2 hbs hsg;have y1:=B2.at1 0 _ rfl;have y2:=B2.at1 1 _ rfl
 go_upto_if 19 with (go_at_call 100;refine (sign1_any _ _ _ w0 (h2.on hb0)).mono ?_;rintro e w1 ⟨rfl,hb1⟩)
 replace B1:=B1.on hb1;replace B2:=B2.on hb1;replace B3:=B3.on hb1;replace hb0:=hb0.trans (hb1.mono hb0.size);clear y1 y2 hb1
 go_cut [] (fun wc=>Below w.heap.size w wc/\Hid (BoxI w.heap.size x wc)/\Hid (BoxI (w.heap.size+1) d wc)/\Hid (Blk wc (w.heap.size+1+1) 41 [.bool false,.slice none 0 0,.bool false,.slice none 0 0]))
 case first =>
  rcases sgnZ_cases z2 with ⟨h,hs⟩|⟨h,-⟩|⟨h,hs⟩
  ·obtain⟨rfl,rfl⟩:=hneg h;rw [hs];replace h1:=h1.on hb0;replace h2:=h2.on hb0;clear hneg hpos
   go_upto_region 4 with (fail)
   refine wp_region_L mixed (none) (0) (Okr.none) [.eq (.agg #[.bool n1,.slice a1 k1 q1]),.int (by decide) ((-z1)),.eq (.agg #[.bool n2,.slice a2 k2 q2]),.int (by decide) ((-z2))] [20,21,22,23] rfl rfl rfl rfl ⟨?_,?_,?_,?_,trivial⟩ ?_
   ·intro A w1 hA hL hS he;have hb:=hL.below;have h2:A.eval (.tmp 2)=.pointer (some ⟨w.heap.size,0,none⟩):=hA 2 rfl;have c0:=((B1).on hb).at1 0 _ rfl;have c1:=((B1).on hb).at1 1 _ rfl;exact pZ rfl
   ·intro A w1 hA hL hS he;have hb:=hS rfl;have h20:=eT 20 (he.1 rfl);have hf0:=eF A 124;refine goOn_plain rfl ?_;refine stepG_call (f:=124) (args:=#[.agg #[.bool n1,.slice a1 k1 q1]]) rfl rfl ?_ ?_
    ·exact gZ
    ·refine (neg1_any _ _ _ _ (h1.on hb) c1').mono ?_;rintro e w' ⟨neg,m,rfl,hi,hb'⟩;exact⟨_,rfl,hb',neg,m,rfl,hi⟩
   ·intro A w1 hA hL hS he;have hb:=hL.below;have h3:A.eval (.tmp 3)=.pointer (some ⟨w.heap.size+1,0,none⟩):=hA 3 rfl;have c0:=((B2).on hb).at1 0 _ rfl;have c1:=((B2).on hb).at1 1 _ rfl;exact pZ rfl
   ·intro A w1 hA hL hS he;have hb:=hS rfl;have h22:=eT 22 (he.1 rfl);have hf0:=eF A 124;refine goOn_plain rfl ?_;refine stepG_call (f:=124) (args:=#[.agg #[.bool n2,.slice a2 k2 q2]]) rfl rfl ?_ ?_
    ·exact gZ
    ·refine (neg1_any _ _ _ _ (h2.on hb) c2').mono ?_;rintro e w' ⟨neg,m,rfl,hi,hb'⟩;exact⟨_,rfl,hb',neg,m,rfl,hi⟩
   ·intro w2 hL2;have hb2:=hL2.below;simp only [TailL,FactL.eq,FactL.int,FactL.of,List.length_cons,List.length_nil,List.drop_succ_cons,List.drop_zero];rintro _ ⟨n3,m3,rfl,i3⟩ _ ⟨n4,m4,rfl,i4⟩;obtain⟨a3,k3,q3,rfl,-,-⟩:=i3.shape;obtain⟨a4,k4,q4,rfl,-,-⟩:=i4.shape;go_frame;refine wpList_store_blk rfl _ (.tmp 2) (.tmp 21) rfl _ _ _ _ rfl rfl (B1.on hb2) rfl sizeInt i3.ones ?_;intro w3 R3 gr3;have hB2:=(B2.on hb2).grown gr3 (by omega);have j4:=i4.stored gr3 (B1.on hb2) (by decide);go_frame;refine wpList_store_blk rfl _ (.tmp 3) (.tmp 23) rfl _ _ _ _ rfl rfl hB2 rfl sizeInt j4.ones ?_;intro w4 R4 gr4;have hlt:=B1.lt;have hlt2:=(B1.on hb2).lt;have hlt3:=hB2.lt;go_wp2;go_meet
    case rel=>exact⟨hb0.trans ((hb2.mono hb0.size).trans (((grown_below gr3 (Nat.le_of_lt hlt2) (Nat.le_refl _))).trans ((grown_below gr4 (by omega) (by omega))))),zH ⟨_,_,_,_,R3.grown gr4 (by omega),(i3.stored gr3 (B1.on hb2) (by decide)).stored gr4 hB2 (by decide)⟩,zH ⟨_,_,_,_,R4,j4.stored gr4 hB2 (by decide)⟩,zH (((B3.on hb2).grown gr3 (by omega)).grown gr4 (by omega))⟩
  ·omega
  ·obtain⟨rfl,rfl⟩:=hpos h;rw [hs];go_wp2;go_meet
   case rel=>exact⟨hb0,zH ⟨_,_,_,_,B1,h1.on hb0⟩,zH ⟨_,_,_,_,B2,h2.on hb0⟩,zH B3⟩
 case rest =>
  obtain⟨hb,hB1,hB2,hB3⟩:=hcut;obtain⟨nx,ax,kx,cx,Bx,ix⟩:=hB1.out;obtain⟨nd,ad,kd,cd,Bd,id⟩:=hB2.out;have u1:=Bx.at1 0 _ rfl;have u2:=Bx.at1 1 _ rfl;have v1:=Bd.at1 0 _ rfl;have v2:=Bd.at1 1 _ rfl;clear B1 B2 B3 hneg hpos
  go_upto_region 6 with (go_at_call 101;refine (gcd1_any _ _ _ _ _ _ _ ix id (cs2 c1) (cs2 c2) hf).mono ?_;rintro e w2 hret;obtain⟨ng,ag,kg,cg,rfl,ig,hb2⟩:=retI_open hret;clear hret)
  refine abs1 fun W2 hb3 Bg hsz2=>?_;have hbB:=hb2.trans (hb3.mono hb2.size);replace Bx:=Bx.on hbB;replace Bd:=Bd.on hbB;replace ix:=ix.on hbB;replace id:=id.on hbB;replace ig:=ig.on hb3;have hB3':=hB3.out.on hbB;replace hb:=hb.trans (hbB.mono hb.size);have hlt2:w.heap.size+1+1<w2.heap.size:=by have:=hb2.size;have:=hB3.out.lt;omega
  generalize w2.heap.size=r at *;have hg1:Int.gcd x d<=d.natAbs:=Int.gcd_le_natAbs_right _ (by omega);have hg0:0<Int.gcd x d:=Int.gcd_pos_of_ne_zero_right _ (by omega);generalize Int.gcd x d=g at *;have c5:nbits ((g:Int)).natAbs<=CS / 2:=by rw [Int.natAbs_natCast];exact Nat.le_trans (nbits_mono hg1) (cs2 c2)
  have hgF:Fits (g:Int):=hf.le (by rw [Int.natAbs_natCast];exact hg1);have hgz:(g:Int)≠0:=by omega
  clear hbB hb2 hb3 u1 u2 v1 v2 hB1 hB2 hB3;have e1:=Bx.at1 0 _ rfl;have e2:=Bx.at1 1 _ rfl;have e3:=Bg.at1 0 _ rfl;have e4:=Bg.at1 1 _ rfl
  go_upto_region 7 with (go_at_call 123;refine (divMod1_any _ _ _ _ _ _ _ ix ig (cs2 c1) c5 hgz hgF).mono ?_;rintro e w5 ⟨n5,m5,n6,m6,rfl,i5,i6,hb5⟩;obtain⟨a5,k5,q5,rfl,-,-⟩:=i5.shape;obtain⟨a6,k6,q6,rfl,-,-⟩:=i6.shape)
  refine abs2 fun W5 hb6 Bp Bpr hsz5=>?_;have hbB:=hb5.trans (hb6.mono hb5.size);replace Bd:=Bd.on hbB;replace Bg:=Bg.on hbB;replace id:=id.on hbB;replace ig:=ig.on hbB;replace hB3':=hB3'.on hbB;replace hb:=hb.trans (hbB.mono hb.size);replace i5:=i5.on hb6;rw [<- hn.out] at i5;have hlt5:r<w5.heap.size:=by have:=hb5.size;omega
  generalize w5.heap.size=r5 at *;clear e1 e2 e3 e4 hb5 hb6 hbB ix Bx i6 Bpr;have e1:=Bd.at1 0 _ rfl;have e2:=Bd.at1 1 _ rfl;have e3:=Bg.at1 0 _ rfl;have e4:=Bg.at1 1 _ rfl
  go_upto_region 8 with (go_at_call 123;refine (divMod1_any _ _ _ _ _ _ _ id ig (cs2 c2) c5 hgz hgF).mono ?_;rintro e w7 ⟨n7,m7,n8,m8,rfl,i7,i8,hb7⟩;obtain⟨a7,k7,q7,rfl,-,-⟩:=i7.shape;obtain⟨a8,k8,q8,rfl,-,-⟩:=i8.shape)
  refine abs2 fun W7 hb8 Bq Bqr hsz7=>?_;have hbB:=hb7.trans (hb8.mono hb7.size);replace Bp:=Bp.on hbB;replace hB3':=hB3'.on hbB;replace hb:=hb.trans (hbB.mono hb.size);replace i5:=i5.on hbB;replace i7:=i7.on hb8;rw [<- hdn.out] at i7;generalize w7.heap.size=r7 at *;clear e1 e2 e3 e4 hb7 hb8 hbB id Bd i8 Bqr;have e1:=Bp.at1 0 _ rfl;have e2:=Bp.at1 1 _ rfl;have e3:=Bq.at1 0 _ rfl;have e4:=Bq.at1 1 _ rfl
  go_wp2_with (refine wpList_store_blk rfl _ (.tmp 4) (.tmp 43) rfl _ _ _ _ rfl rfl hB3' rfl sizeRat isRat_ones ?_;intro w9 R9 gr9)
  exact bodyPost_ret (results_cell1 rfl _ _ _ Tryz.underlying41 rfl rfl R9 sizeRat) rfl ⟨_,rfl,IsRat.stored ⟨_,_,_,_,_,_,_,_,rfl,i5,i7⟩ gr9 hB3' (by decide),hb.trans ((grown_below gr9 (Nat.le_of_lt hB3'.lt) (Nat.le_refl _)).mono (by omega))⟩
theorem of3_any (n1 n2:Bool) (m1 m2:Value) (z1 z2:Int) (w:World) (h1:IsInt w n1 m1 z1) (h2:IsInt w n2 m2 z2) (c1:nbits z1.natAbs<=CS / 4) (c2:nbits z2.natAbs<=CS / 4) (hz:z2≠0) (hf:Fits z2) :
  Calls Tryz.prog 107 #[.agg #[.bool n1,m1],.agg #[.bool n2,m2]] w (RetRat w (Rat.divInt z1 z2)):=by
 obtain⟨a1,k1,q1,rfl,-,-⟩:=h1.shape;obtain⟨a2,k2,q2,rfl,-,-⟩:=h2.shape
 go_enter Tryz.func107,Tryz.ntmps107
 go_upto_region 1 with (fail)
 refine abs3 fun W hb0 B1 B2 B3 hsz=>?_;have x1:=B1.at1 0 _ rfl;have x2:=B1.at1 1 _ rfl;have y1:=B2.at1 0 _ rfl;have y2:=B2.at1 1 _ rfl
 go_upto_region 2 with (go_at_call 104;refine (of2_any _ _ _ _ _ _ W (h1.on hb0) (h2.on hb0) c1 c2 hz hf).mono ?_;rintro e w1 ⟨v,rfl,hv,hb1⟩;obtain⟨t1,b1,g1,d1,t2,b2,g2,d2,rfl,j1,j2⟩:=hv)
 refine abs1 fun W2 hb2 B5 hsz2=>?_;have hbB:=hb1.trans (hb2.mono hb1.size);have C3:=B3.on hbB;have e1:=B5.at1 0 _ rfl;have e2:=B5.at1 1 _ rfl;have e3:=B5.at1 2 _ rfl;have e4:=B5.at1 3 _ rfl;clear x1 x2 y1 y2
 go_wp2_with (refine wpList_store_blk rfl _ (.tmp 4) (.tmp 13) rfl _ _ _ _ rfl rfl C3 rfl sizeRat isRat_ones ?_;intro w3 R gr)
 exact ret_blk rfl rfl rfl R Tryz.underlying41 rfl sizeRat (rat_end hb0 hbB (by omega) C3 ⟨_,_,_,_,_,_,_,_,rfl,j1.on hb2,j2.on hb2⟩ gr)
end Go.Proofs.YtopclbeomcggiaaGreat
