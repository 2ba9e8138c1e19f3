/- mpoly.Sub, Partial. mpoly.Pow. The reference's rational numbers: Whole, Valid, Sign, Add, Mul, Same, Made. The reference: Same on rational numbers; exponents: greater, Natural. -/
import Derived.Test.YtopclbeomcggiaaGreatE02
import Derived.Test.YtopclbeomcggiaaGreatE04
import Derived.Test.YtopclbeomcggiaaGreatE20
import Derived.Test.YtopclbeomcggiaaGreatE21
import Derived.Test.YtopclbeomcggiaaGreatE24
set_option linter.unusedVariables false
set_option linter.unusedSimpArgs false
set_option maxHeartbeats 16000000
set_option maxRecDepth 100000
section
namespace Go.Proofs.YtopclbeomcggiaaGreat
open Go.RowKit Q Go.WideMaps Go.Maps
end Go.Proofs.YtopclbeomcggiaaGreat
namespace Q
open Go Go.RowKit Q Go.Proofs.YtopclbeomcggiaaGreat
theorem OwnSl.base_mono {α:Type} {e:El α} {base b':Nat} {w:World} {v:Value} {l:List α} (h:OwnSl e base w v l) (hb:b'<=base):OwnSl e b' w v l:=by
 obtain⟨xs,⟨h1,h2⟩,h3⟩:=h;refine⟨xs,⟨h1,?_⟩,h3⟩;rcases h2 with h2|⟨g,cap,cur,h4,h5,h6⟩
 ·exact .inl h2
 ·exact .inr ⟨g,cap,cur,h4,Nat.le_trans hb h5,h6⟩
end Q
namespace Go.Proofs.YtopclbeomcggiaaGreat
open Go.RowKit Q Go.WideMaps Go.Maps
theorem rmul_m1 (q:Rat):q*(-1)=-q:=by grind
theorem Rk.neg {q:Rat} (h:Rk q):Rk (-q):=by
 unfold Rk at *;rw [Rat.neg_den,Rat.neg_num,Int.natAbs_neg];exact h
theorem Rk.m1:Rk (-1):=⟨by unfold CAP;decide,by unfold CAP;decide⟩
theorem scaleP_m1 (p:List Trm):scaleP p (-1)=p.map fun t=>(t.1,t.2*(-1)):=by rw [scaleP,if_neg (by decide)]
theorem rk_scale_m1 {p:List Trm} (h:∀ t∈p,Rk t.2):∀ t∈scaleP p (-1),Rk t.2:=by
 rw [scaleP_m1];intro t ht;obtain⟨s,hs,rfl⟩:=List.mem_map.1 ht;simp only [rmul_m1];exact (h s hs).neg
theorem sub_own (vp vq:Value) (p q:List Trm) (w:World) (hp:IsPoly w vp p) (hq:IsPoly w vq q) (rp:∀ t∈p,Rk t.2) (rq:∀ t∈q,Rk t.2) (lp:p.length<=100000000) (lq:q.length<=100000000) (vlp:Vld p) (vlq:Vld q) :
  Calls Tryz.prog 74 #[vp,vq] w (RetOwn w (subP p q)):=by
 have hl:=rk_scale_m1 rq;have hll:(scaleP q (-1)).length<=100000000:=by rw [scaleP_m1];simpa using lq
 have hm:=mergeP_eq vlp (vlq.scale (-1))
 go_enter Tryz.func74,Tryz.ntmps74
 go_wp2_with (first
 |(go_at_call 47;refine (rwhole_any (-1) _ (by omega) (by omega)).mono ?_;rintro en W1 ⟨v7,rfl,h7,hb1⟩)
 |(go_at_call 48;refine (scale_any _ _ q (-1) _ (hq.on hb1) h7 Rk.m1 rq lq).mono ?_;rintro en W2 ⟨v8,rfl,h8,hb2⟩)
 |(go_at_call 106;refine (add_own _ _ p _ _ (hp.on (hb1.trans (hb2.mono hb1.size))) h8 rp hl lp hll).mono ?_;rintro en W3 ⟨v9,rfl,h9,hb3⟩))
 go_ret;have hb12:=hb1.trans (hb2.mono hb1.size)
 exact⟨_,rfl,by
  rw [subP,<- hm]
  exact h9.base_mono hb12.size,hb12.trans (hb3.mono hb12.size)⟩
theorem sub_any (vp vq:Value) (p q:List Trm) (w:World) (hp:IsPoly w vp p) (hq:IsPoly w vq q) (rp:∀ t∈p,Rk t.2) (rq:∀ t∈q,Rk t.2) (lp:p.length<=100000000) (lq:q.length<=100000000) (vlp:Vld p) (vlq:Vld q) :
  Calls Tryz.prog 74 #[vp,vq] w (RetPoly w (subP p q)):=(sub_own vp vq p q w hp hq rp rq lp lq vlp vlq).mono fun _ _ h=>h.poly
theorem partialP_snoc {p:List Trm} {v k:Nat} {t:Trm} (h:p[k]?=some t):partialP (p.take (k+1)) v=partialP (p.take k) v++(if 0<t.1.get v then [(t.1.put v (t.1.get v-1),t.2*(t.1.get v:Rat))] else []):=by
 rw [List.take_add_one,h];simp only [partialP,Option.toList_some,List.filter_append,List.map_append]
 congr 1
 by_cases hz:0<t.1.get v
 ·simp [hz]
 ·simp [hz]
theorem partial_any (vp:Value) (p:List Trm) (v:Nat) (w:World) (hp:IsPoly w vp p) (hv:v<4) (hkp:∀ t∈p,Rk t.2/\t.1.get v<=100000000/\Rk (t.1.get v:Rat)) (hpl:p.length<=100000000) :
  Calls Tryz.prog 73 #[vp,.int .i64 v] w (RetPoly w (partialP p v)):=by
 obtain⟨ap,cp,rfl,hcp⟩:=hp.shape;replace hkp:=zH hkp;have hv4:(v:Int)<4:=by omega
 go_enter Tryz.func73,Tryz.ntmps73
 go_wp2
 go_loopw [11,5] (fun i o wr=>∃ k:Nat,k<=p.length/\i=.int .i64 k/\Hid (OwnPoly w.heap.size wr o (partialP (p.take k) v))/\(partialP (p.take k) v).length<=k/\Below w.heap.size w wr) (fun i _ _=>p.length-(intOf i).toNat)
 case atStart=>exact⟨0,by omega,rfl,zH (OwnSl.nil _ _ _),by simp [partialP],Below.refl _ _⟩
 case round =>
  obtain⟨k,hk,rfl,hown,hln,hb⟩:=hrel;by_cases hkl:k<p.length
  ·have hjq:p[k]?=some p[k]:=List.getElem?_eq_getElem hkl;obtain⟨b'',off',cs,rfl,-,hE,hC⟩:=(hp.on hb).get hjq;generalize p[k]=t at hjq hE;have hsn:=partialP_snoc (v:=v) hjq;obtain⟨e,q⟩:=t;obtain⟨r,rfl,n1,x1,k1,d1,n2,x2,k2,d2,rfl,i1,i2⟩:=hE;have hr:=hC.range;have hkl':(k:Int)<p.length:=by omega
   have hmem:=List.mem_of_getElem? hjq;have hrat:=zH (show IsRat wr (.agg #[.bool n1,.slice x1 k1 d1,.bool n2,.slice x2 k2 d2]) q from⟨n1,x1,k1,d1,n2,x2,k2,d2,rfl,i1,i2⟩);obtain⟨hkq,hlx,hkx⟩:=hkp.out _ hmem;simp only at hkq hlx hkx hsn;have hgp:Ex.get e v=Ex.get e v:=rfl;have hat:=exC_at e v hv [.bool n1,.slice x1 k1 d1,.bool n2,.slice x2 k2 d2];have hset:=exC_set e v hv (Ex.get e v - 1);generalize hE':Ex.put e v (Ex.get e v - 1)=E' at *;generalize hx:Ex.get e v=x at *;clear hC i1 i2 hE' hx hgp;replace hsn:=zH hsn;obtain⟨e1,e2,e3,e4⟩:=e;simp only [exC,List.cons_append,List.nil_append] at hr hat
   go_upto_region 5 with (first
   |(refine wpList_index_at rfl _ _ 27 rfl monoT Tryz.underlying27 _ 8 96 (by kernel_rfl) _ _ _ rfl .i64 _ rfl k rfl hkl b'' off' rfl ?_)
   |(refine wpList_load_mid rfl 43 _ rfl _ _ rfl _ _ hr Tryz.underlying43 rfl (by kernel_rfl) ?_))
   refine abs1 fun W2 hb2 B hsz2=>?_;have hown2:=zH (hown.out.on hb2);have hbe:=hown.out.base_le;have hbW2:=hb.trans (hb2.mono hb.size);have hrat2:=hrat.out.on hb2;have hws:w.heap.size<=wr.heap.size:=hb.size;have hno:∀ g,u5.ownBlock=some g->g<wr.heap.size:=fun g hg=>(hbe g hg).2;have hbase:∀ g,u5.ownBlock=some g->w.heap.size<=g:=fun g hg=>(hbe g hg).1;clear hb2 hown hr hrat hb hsz2 hbe;generalize wr.heap.size=r at *;have z:=B.at1 v _ hat;by_cases hx0:0<x
   ·go_upto_region 7 with (fail)
    have hwr:IntKind.i64.wrap (x-1)=x-1:=wrap_id (by omega);have z':=B.at1 v _ hat;have hf:=B.frozen v
    go_upto_region 8 with (fail)
    have hl3:=setCell_lr (j:=v) B (.int .i64 (x-1));have B3:=B.set v (.int .i64 (x-1));have hset3:=hset [.bool n1,.slice x1 k1 d1,.bool n2,.slice x2 k2 d2];simp only [exC,List.cons_append,List.nil_append] at hset3;rw [hset3] at B3;have hne:u5.ownBlock≠some r:=fun h=>by have:=hno r h;simp at this
    have hown3:=hown2.out.lr hl3 (elTerm_ok (by decide)) (.inr hne);have hrat3:=hrat2.lr hl3 (by decide);have hbW3:=hbW2.trans (hl3.belowAt hbW2.size (fun k hk=>by cases hk;exact hws));rw [if_pos hx0] at hsn;obtain⟨g1,g2,g3,g4⟩:=E';simp only [exC,List.cons_append,List.nil_append] at B3;generalize W2.setCell ⟨r,v,none⟩ (.int .i64 (x - 1))=W3 at *;clear hl3 hset3 hset z z' hf hwr hown2 hrat2 B hbW2 hat;refine wp_region_L mixed (none) (0) (Okr.none) [.eq (.pointer (some ⟨r,4,none⟩)),.eq (.agg #[.bool n1,.slice x1 k1 d1,.bool n2,.slice x2 k2 d2]),.eq (.int .i64 x),.rat (by decide) ((x:Rat)),.rat (by decide) ((q*(x:Rat))),.eq (.pointer (some ⟨r,4,none⟩))] [28,29,30,31,32,33] rfl rfl rfl rfl ⟨?_,?_,?_,?_,?_,?_,trivial⟩ ?_
    ·intro A w1 hA hL hS he;have h7:A.eval (.tmp 7)=.pointer (some ⟨r,0,none⟩):=hA 7 rfl;exact pZ rfl
    ·intro A w1 hA hL hS he;have hb:=hL.below;have h28:=eT 28 (he.1 rfl);have c0:=((B3).on hb).at1 4 _ rfl;have c1:=((B3).on hb).at1 5 _ rfl;have c2:=((B3).on hb).at1 6 _ rfl;have c3:=((B3).on hb).at1 7 _ rfl;exact pZ rfl
    ·exact fun _ _ a _ _ _=>xM rfl (a 8 rfl)
    ·intro A w1 hA hL hS he;have hb:=hS rfl;have h30:=eT 30 (he.1 rfl);have hf0:=eF A 47;exact cP (f:=47) (args:=#[.int .i64 x]) (rwhole_any _ _ (by omega) (by omega))
    ·intro A w1 hA hL hS he;have hb:=hS rfl;have h29:=eT 29 (he.1 rfl);obtain⟨v31,h31,f31⟩:=fT 31 (he.2.1 rfl);have hf0:=eF A 88;exact cP (f:=88) (args:=#[.agg #[.bool n1,.slice x1 k1 d1,.bool n2,.slice x2 k2 d2],v31]) (rmul_any _ _ _ _ _ (hrat3.on hb) f31 hkq hkx)
    ·intro A w1 hA hL hS he;have h7:A.eval (.tmp 7)=.pointer (some ⟨r,0,none⟩):=hA 7 rfl;exact pZ rfl
    ·intro W4 hL4;have hb4:=hL4.below;simp only [TailL,FactL.eq,FactL.rat,FactL.of,lZ];rintro v31 h31 v32 h32;obtain⟨n5,a5,k5,c5,n6,a6,k6,c6,rfl⟩:=rat_agg h32;go_frame;have hown4:=hown3.on hb4;have B4:=B3.on hb4;have hbW4:=hbW3.trans (hb4.mono hbW3.size);clear hown3 B3 hL4 hb4 h31 hrat3
     go_upto_region 9 with (refine wpList_store_part rfl _ (.tmp 33) (.tmp 32) rfl r 4 monoT _ _ rfl rfl B4 (by simp) sizeRat isRat_ones ?_;intro W5 R5 hl5)
     change Blk W5 r monoT (exC (g1,g2,g3,g4)++[.bool n5,.slice a5 k5 c5,.bool n6,.slice a6 k6 c6]) at R5;have hown5:=hown4.lr hl5 (elTerm_ok (by decide)) (.inr hne);have h325:=h32.lr hl5 (by decide);have hbW5:=hbW4.trans (hl5.belowAt hbW4.size (fun k hk=>by cases hk;exact hws));have hne':some r≠u5.ownBlock:=fun h=>hne h.symm;obtain⟨rc,hrcE⟩:∃ rc,rc=[Value.bool n5,.slice a5 k5 c5,.bool n6,.slice a6 k6 c6]:=⟨_,rfl⟩;have hrc:rc.length=4:=by rw [hrcE];rfl
     have h8:(exC (g1,g2,g3,g4)++rc).length=8:=by rw [List.length_append,hrc];rfl
     rw [show (Value.agg #[.bool n5,.slice a5 k5 c5,.bool n6,.slice a6 k6 c6])=.agg rc.toArray by rw [hrcE]] at h325;rw [<- hrcE] at R5;clear hown4 B4 hl5 hbW4 h32;refine wp_region_S trivial (u5.ownBlock) (monoT) (hown5.okr) [.eq (u5),.eq (.agg (exC (g1,g2,g3,g4)++rc).toArray),.new1 elTerm elTerm_okT (((g1,g2,g3,g4),q*(x:Rat))),.row elTerm (w.heap.size) W5.heap.size (partialP (p.take k) v++[((g1,g2,g3,g4),q*(x:Rat))])] [34,35,36,37] rfl rfl rfl rfl ⟨?_,?_,?_,?_,trivial⟩ ?_
     ·exact fun _ _ a _ _ _=>xM rfl (a 5 rfl)
     ·exact fun _ _ a hL _ _=>pL rfl ((R5.lr hL hne').range 0 _ (fun j v h=>by rw [Nat.zero_add];exact h)) Tryz.underlying43 (h8) (a 7 rfl)
     ·intro A w1 hA hL hS he;have h35:=eT 35 (he.1 rfl);refine goOn_plain rfl ?_;have hE:(elTerm:El _).E w1 _ (((g1,g2,g3,g4),q*(x:Rat))):=⟨_,rfl,(h325.lr hL (by decide)).cellsC⟩;refine stepG_new1 rfl rfl ((hown5.okr).lr hL) hE (execOp_buildSlice rfl ?_) (fun _ _ h=>h);simp only [List.map_toArray,List.map_cons,List.map_nil,h35];exact run_new1_elTermP _ _ ((elTerm).len hE)
     ·intro A w1 hA hL hS he;have hb:=hS rfl;have hbw:Below w.heap.size w w1:=hbW5.trans (hL.belowAt hbW5.size hbase);have h34:=eT 34 (he.1 rfl);obtain⟨v36,h36,f36⟩:=fT 36 (he.2.1 rfl);exact goOn_plain rfl (stepG_append rfl rfl rfl Tryz.underlying27 info_elTerm h34 h36 (hown5.on hb) rfl rfl (isSl_of_new f36) (by simp;omega) (hbw.size) hL.1.size (fun _ _ h1 h2=>⟨h1,h2⟩))
     ·intro W6 hL6;simp only [TailL,FactL.eq,FactL.new1,FactL.row,FactL.asPure,FactL.of,FactL.fragile,lZ];rintro v36 - v37 ⟨hown6,hnew⟩;go_frame;have hbW6:=hbW5.trans (hL6.belowAt hbW5.size hbase);have hpl':(partialP (p.take (k+1)) v).length<=k+1:=by rw [hsn.out];simp;omega
      go_wp2;go_roundw
      case measure=>simp [intOf];omega
      case rel=>exact⟨k+1,by omega,by go_num,zH (by rw [hsn.out];exact hown6),hpl',hbW6⟩
   ·have hx0':¬ (0:Int)<x:=hx0;rw [if_neg hx0,List.append_nil] at hsn;go_wp2;go_roundw
    case measure=>simp [intOf];omega
    case rel=>exact⟨k+1,by omega,by go_num,zH (by rw [hsn.out];exact hown2.out),by rw [hsn.out];omega,hbW2⟩
  ·obtain rfl:k=p.length:=by omega
   rw [List.take_of_length_le (Nat.le_refl _)] at hown;go_wp2;go_ret;exact⟨_,rfl,hown.out.isSl,hb⟩
end Go.Proofs.YtopclbeomcggiaaGreat
end
section
namespace Q
end Q
namespace Go.Proofs.YtopclbeomcggiaaGreat
open Go.RowKit Q Go.WideMaps Go.Maps
end Go.Proofs.YtopclbeomcggiaaGreat
end
section
namespace Go.Proofs.YtopclbeomcggiaaGreat
open Go.RowKit Q
theorem sign2_any (v:Value) (q:Rat) (w:World) (h:IsRat w v q):Calls Tryz.prog 67 #[v] w (Ret w (.int .i64 (sgnZ q.num))):=by
 obtain⟨s1,a1,l1,c1,s2,a2,l2,c2,rfl,i1,i2⟩:=h
 go_enter Tryz.func67,Tryz.ntmps67
 go_upto_region 1 with (fail)
 refine abs1 fun W hb0 B1 hsz=>?_;have e1:=B1.at1 0 _ rfl;have e2:=B1.at1 1 _ rfl
 go_wp2_with (go_at_call 100;refine (sign1_any _ _ _ _ (i1.on hb0)).mono ?_;rintro e w1 ⟨rfl,hb1⟩)
 go_ret;exact⟨rfl,hb0.trans (hb1.mono hb0.size)⟩
theorem whole2_any (n:Int) (w:World) (h1:-4611686018427387904<=n) (h2:n<=4611686018427387904):Calls Tryz.prog 24 #[.int .i64 n] w (RetRat w n):=by
 go_enter Tryz.func24,Tryz.ntmps24
 go_upto_region 1 with (fail)
 refine abs1 fun W hb0 B1 hsz=>?_;refine wp_region_S trivial (none) (0) (Okr.none) [.eq (.int .i64 n),.int (by decide) (n),.int (by decide) (1),.rat (by decide) (n:Rat)] [3,4,5,6] rfl rfl rfl rfl ⟨?_,?_,?_,?_,trivial⟩ ?_
 ·exact fun _ _ a _ _ _=>xM rfl (a 0 rfl)
 ·intro A w1 hA hL hS he;have hb:=hS rfl;have h3:=eT 3 (he.1 rfl);have hf0:=eF A 70;exact cP (f:=70) (args:=#[.int .i64 n]) (of1_any n _ h1 h2)
 ·intro A w1 hA hL hS he;have hb:=hS rfl;have hf0:=eF A 70;have hc0:=eC A (.int .i64 1);exact cP (f:=70) (args:=#[(.int .i64 1)]) (of1_any 1 _ (by omega) (by omega))
 ·intro A w1 hA hL hS he;obtain⟨v4,h4,f4⟩:=fT 4 (he.1 rfl);obtain⟨v5,h5,f5⟩:=fT 5 (he.2.1 rfl);refine goOn_plain rfl ?_;obtain⟨x4,y4,rfl,i4⟩:=f4;obtain⟨x5,y5,rfl,i5⟩:=f5;obtain⟨a4,k4,q4,rfl,-,-⟩:=i4.shape;obtain⟨a5,k5,q5,rfl,-,-⟩:=i5.shape;refine stepG_value (c:=.agg #[.bool x4,.slice a4 k4 q4,.bool x5,.slice a5 k5 q5]) rfl rfl (Below.refl _ _) ⟨_,_,_,_,_,_,_,_,rfl,by rw [Rat.num_intCast];exact i4,by rw [Rat.den_intCast];exact i5⟩ ?_;exact gZ
 ·intro w1 hL;have hb1:=hL.below;simp only [TailL,FactL.eq,FactL.int,FactL.rat,FactL.of,lZ];rintro _ - _ - v6 h6;obtain⟨t1,b1,g1,d1,t2,b2,g2,d2,rfl,j1,j2⟩:=h6;go_frame;have C1:=B1.on hb1
  go_wp2_with (refine wpList_store_blk rfl _ (.tmp 2) (.tmp 6) rfl _ _ _ _ rfl rfl C1 rfl sizeRat isRat_ones ?_;intro w3 R gr)
  exact ret_blk rfl rfl rfl R Tryz.underlying41 rfl sizeRat (rat_end hb0 hb1 (by omega) C1 ⟨_,_,_,_,_,_,_,_,rfl,j1,j2⟩ gr)
theorem valid2_any (v:Value) (q:Rat) (w:World) (h:IsRat w v q) (k:Rs q):Calls Tryz.prog 66 #[v] w (Ret w (.bool true)):=by
 obtain⟨s1,a1,l1,c1,s2,a2,l2,c2,rfl,i1,i2⟩:=h;have hd0:0<(q.den:Int):=by have:=q.den_nz;omega
 have hsg:∀ W,Below w.heap.size w W->Calls Tryz.prog 100 #[.agg #[.bool s2,.slice a2 l2 c2]] W (Ret W (.int .i64 1)):=fun W hb=>by
  have:=sign1_any s2 _ _ W (i2.on hb);rwa [show sgnZ (q.den:Int)=1 by unfold sgnZ;rw [if_neg (by omega),if_neg (by omega)]] at this
 have hg:Int.gcd q.num (q.den:Int)=1:=by have:=q.reduced;simpa [Nat.Coprime,Int.gcd] using this
 have hfit:Fits (q.den:Int):=by unfold Fits;have:=k.1;omega
 have hgc:∀ W,Below w.heap.size w W->Calls Tryz.prog 101 #[.agg #[.bool s1,.slice a1 l1 c1],.agg #[.bool s2,.slice a2 l2 c2]] W (RetI W 1):=fun W hb=>by
  have:=gcd1_any _ _ _ _ _ _ W (i1.on hb) (i2.on hb) (cs2 k.num) (cs2 k.den) hfit;rwa [hg] at this
 go_enter Tryz.func66,Tryz.ntmps66
 go_upto_region 1 with (fail)
 refine abs1 fun W hb0 B hsz=>?_;refine wp_region_S trivial (none) (0) (Okr.none) [.eq (.pointer (some ⟨w.heap.size,0,none⟩)),.eq (.agg #[.bool s1,.slice a1 l1 c1]),.ret (.bool true),.eq (.bool false),.eq (.bool false),.eq (.pointer (some ⟨w.heap.size,2,none⟩)),.eq (.agg #[.bool s2,.slice a2 l2 c2]),.ret (.bool true),.eq (.bool false),.eq (.bool false),.eq (.bool false),.eq (.pointer (some ⟨w.heap.size,2,none⟩)),.eq (.agg #[.bool s2,.slice a2 l2 c2]),.ret (.int .i64 1),.eq (.bool false),.eq (.bool false)] [3,4,5,6,7,8,9,10,11,12,13,14,15,16,17,18] rfl rfl rfl rfl ⟨?_,?_,?_,?_,?_,?_,?_,?_,?_,?_,?_,?_,?_,?_,?_,?_,trivial⟩ ?_
 ·intro A w1 hA hL hS he;have h1:A.eval (.tmp 1)=.pointer (some ⟨w.heap.size,0,none⟩):=hA 1 rfl;exact pZ rfl
 ·intro A w1 hA hL hS he;have hb:=hL.below;have h3:=eT 3 (he.1 rfl);have c0:=((B).on hb).at1 0 _ rfl;have c1:=((B).on hb).at1 1 _ rfl;exact pZ rfl
 ·intro A w1 hA hL hS he;have hb:=hS rfl;have h4:=eT 4 (he.1 rfl);have hf0:=eF A 99;refine goOn_plain rfl ?_;refine stepG_call (f:=99) (args:=#[.agg #[.bool s1,.slice a1 l1 c1]]) rfl rfl ?_ ?_
  ·exact gZ
  ·refine (valid1_any _ _ _ _ ((i1.on hb0).on hb) k.rk.num').mono ?_;rintro e w' ⟨rfl,hb'⟩;exact⟨_,rfl,hb',rfl⟩
 ·intro A w1 hA hL hS he;have h5:=eT 5 (he.1 rfl);exact pZ rfl
 ·exact fun _ _ _ _ _ e=>xM rfl (e.1 rfl)
 ·intro A w1 hA hL hS he;have h7:=eT 7 (he.1 rfl);have h1:A.eval (.tmp 1)=.pointer (some ⟨w.heap.size,0,none⟩):=hA 1 rfl;exact yZ h7 rfl
 ·intro A w1 hA hL hS he;have hb:=hL.below;have h7:=eT 7 (he.2.1 rfl);have h8:=eT 8 (he.1 rfl);have c0:=((B).on hb).at1 2 _ rfl;have c1:=((B).on hb).at1 3 _ rfl;exact yZ h7 rfl
 ·intro A w1 hA hL hS he;have hb:=hS rfl;have h7:=eT 7 (he.2.1 rfl);have h9:=eT 9 (he.1 rfl);have hf0:=eF A 99;refine goOn_yes rfl rfl h7 ?_;refine stepG_call (f:=99) (args:=#[.agg #[.bool s2,.slice a2 l2 c2]]) rfl rfl ?_ ?_
  ·exact gZ
  ·refine (valid1_any _ _ _ _ ((i2.on hb0).on hb) k.rk.den').mono ?_;rintro e w' ⟨rfl,hb'⟩;exact⟨_,rfl,hb',rfl⟩
 ·intro A w1 hA hL hS he;have h7:=eT 7 (he.2.1 rfl);have h10:=eT 10 (he.1 rfl);exact yZ h7 rfl
 ·exact fun _ _ _ _ _ e=>pK rfl (e.1 rfl) (e.2.1 rfl)
 ·exact fun _ _ _ _ _ e=>xM rfl (e.1 rfl)
 ·intro A w1 hA hL hS he;have h13:=eT 13 (he.1 rfl);have h1:A.eval (.tmp 1)=.pointer (some ⟨w.heap.size,0,none⟩):=hA 1 rfl;exact yZ h13 rfl
 ·intro A w1 hA hL hS he;have hb:=hL.below;have h13:=eT 13 (he.2.1 rfl);have h14:=eT 14 (he.1 rfl);have c0:=((B).on hb).at1 2 _ rfl;have c1:=((B).on hb).at1 3 _ rfl;exact yZ h13 rfl
 ·intro A w1 hA hL hS he;have hb:=hS rfl;have h13:=eT 13 (he.2.1 rfl);have h15:=eT 15 (he.1 rfl);have hf0:=eF A 100;refine goOn_yes rfl rfl h13 ?_;refine stepG_call (f:=100) (args:=#[.agg #[.bool s2,.slice a2 l2 c2]]) rfl rfl ?_ ?_
  ·exact gZ
  ·refine (hsg _ (hb0.trans (hb.mono hb0.size))).mono ?_;rintro e w' ⟨rfl,hb'⟩;exact⟨_,rfl,hb',rfl⟩
 ·intro A w1 hA hL hS he;have h13:=eT 13 (he.2.1 rfl);have h16:=eT 16 (he.1 rfl);have hc0:=eC A (.int .i64 0);exact yZ h13 rfl
 ·exact fun _ _ _ _ _ e=>pK rfl (e.1 rfl) (e.2.1 rfl)
 ·intro w1 hL;simp only [TailL,FactL.eq,FactL.ret,lZ];go_frame;have hb1:=hb0.trans (hL.below.mono hb0.size);have C:=B.on hL.below
  go_upto_region 3 with (fail)
  refine wp_region_S trivial (none) (0) (Okr.none) [.eq (.pointer (some ⟨w.heap.size,0,none⟩)),.eq (.agg #[.bool s1,.slice a1 l1 c1]),.eq (.pointer (some ⟨w.heap.size,2,none⟩)),.eq (.agg #[.bool s2,.slice a2 l2 c2]),.int (by decide) (1),.int (by decide) (1),.ret (.bool (decide ((1:Int)=1)))] [19,20,21,22,23,24,25] rfl rfl rfl rfl ⟨?_,?_,?_,?_,?_,?_,?_,trivial⟩ ?_
  ·intro A w1 hA hL hS he;have h1:A.eval (.tmp 1)=.pointer (some ⟨w.heap.size,0,none⟩):=hA 1 rfl;exact pZ rfl
  ·intro A w1 hA hL hS he;have hb:=hL.below;have h19:=eT 19 (he.1 rfl);have c0:=((C).on hb).at1 0 _ rfl;have c1:=((C).on hb).at1 1 _ rfl;exact pZ rfl
  ·intro A w1 hA hL hS he;have h1:A.eval (.tmp 1)=.pointer (some ⟨w.heap.size,0,none⟩):=hA 1 rfl;exact pZ rfl
  ·intro A w1 hA hL hS he;have hb:=hL.below;have h21:=eT 21 (he.1 rfl);have c0:=((C).on hb).at1 2 _ rfl;have c1:=((C).on hb).at1 3 _ rfl;exact pZ rfl
  ·intro A w1 hA hL hS he;have hb:=hS rfl;have h20:=eT 20 (he.1 rfl);have h22:=eT 22 (he.2.1 rfl);have hf0:=eF A 101;exact cP (f:=101) (args:=#[.agg #[.bool s1,.slice a1 l1 c1],.agg #[.bool s2,.slice a2 l2 c2]]) (hgc _ (hb1.trans (hb.mono hb1.size)))
  ·intro A w1 hA hL hS he;have hb:=hS rfl;have hf0:=eF A 70;have hc0:=eC A (.int .i64 1);exact cP (f:=70) (args:=#[(.int .i64 1)]) (of1_any 1 _ (by omega) (by omega))
  ·intro A w1 hA hL hS he;have hb:=hS rfl;obtain⟨v23,h23,f23⟩:=fT 23 (he.1 rfl);obtain⟨v24,h24,f24⟩:=fT 24 (he.2.1 rfl);have hf0:=eF A 69;refine goOn_plain rfl ?_;refine stepG_call (f:=69) (args:=#[v23,v24]) rfl rfl ?_ ?_
   ·exact gZ
   ·obtain⟨n23,m23,rfl,i23⟩:=f23;obtain⟨n24,m24,rfl,i24⟩:=f24;refine (same1_any _ _ _ _ _ _ _ i23 i24 (by decide) (by decide)).mono ?_;rintro e w' ⟨rfl,hb'⟩;exact⟨_,rfl,hb',rfl⟩
  ·intro w2 hL2;simp only [TailL,FactL.eq,FactL.ret,FactL.int,FactL.of,lZ];rintro _ - _ -;go_frame;go_wp2;go_ret;exact⟨rfl,hb1.trans (hL2.below.mono hb1.size)⟩
theorem add2_any (v1 v2:Value) (p q:Rat) (w:World) (h1:IsRat w v1 p) (h2:IsRat w v2 q) (k1:Rs p) (k2:Rs q) :
  Calls Tryz.prog 81 #[v1,v2] w (RetRat w (p+q)):=by
 rw [<- divInt_add];obtain⟨s1,a1,l1,c1,s2,a2,l2,c2,rfl,i1,i2⟩:=h1;obtain⟨s3,a3,l3,c3,s4,a4,l4,c4,rfl,i3,i4⟩:=h2;obtain⟨df,db,dz⟩:=densS k1 k2;have cb:=crossS k1 k2;have cb':=crossS k2 k1;have sb:nbits (p.num*(q.den:Int)+q.num*(p.den:Int)).natAbs<=CS / 4:=by have:=sum_bits cb cb';unfold CS at *;omega
 have cb1:nbits (p.num*(q.den:Int)).natAbs<=CS:=by unfold CS at *;omega
 have cb2:nbits (q.num*(p.den:Int)).natAbs<=CS:=by unfold CS at *;omega
 go_enter Tryz.func81,Tryz.ntmps81
 go_upto_region 1 with (fail)
 refine abs3 fun W hb0 B1 B2 B3 hsz=>?_;replace i1:=i1.on hb0;replace i2:=i2.on hb0;replace i3:=i3.on hb0;replace i4:=i4.on hb0;refine wp_region_L mixed (none) (0) (Okr.none) [.eq (.pointer (some ⟨w.heap.size,0,none⟩)),.eq (.agg #[.bool s1,.slice a1 l1 c1]),.eq (.pointer (some ⟨w.heap.size+1,2,none⟩)),.eq (.agg #[.bool s4,.slice a4 l4 c4]),.int (by decide) ((p.num*(q.den:Int))),.eq (.pointer (some ⟨w.heap.size+1,0,none⟩)),.eq (.agg #[.bool s3,.slice a3 l3 c3]),.eq (.pointer (some ⟨w.heap.size,2,none⟩)),.eq (.agg #[.bool s2,.slice a2 l2 c2]),.int (by decide) ((q.num*(p.den:Int))),.int (by decide) ((p.num*(q.den:Int)+q.num*(p.den:Int))),.box 39 W.heap.size [.bool false,.slice none 0 0]] [6,7,8,9,10,11,12,13,14,15,16,5] rfl rfl rfl rfl ⟨?_,?_,?_,?_,?_,?_,?_,?_,?_,?_,?_,?_,trivial⟩ ?_
 ·intro A w1 hA hL hS he;have h2:A.eval (.tmp 2)=.pointer (some ⟨w.heap.size,0,none⟩):=hA 2 rfl;exact pZ rfl
 ·intro A w1 hA hL hS he;have hb:=hL.below;have h6:=eT 6 (he.1 rfl);have c0:=((B1).on hb).at1 0 _ rfl;have c1:=((B1).on hb).at1 1 _ rfl;exact pZ rfl
 ·intro A w1 hA hL hS he;have h3:A.eval (.tmp 3)=.pointer (some ⟨w.heap.size+1,0,none⟩):=hA 3 rfl;exact pZ rfl
 ·intro A w1 hA hL hS he;have hb:=hL.below;have h8:=eT 8 (he.1 rfl);have c0:=((B2).on hb).at1 2 _ rfl;have c1:=((B2).on hb).at1 3 _ rfl;exact pZ rfl
 ·intro A w1 hA hL hS he;have hb:=hS rfl;have h7:=eT 7 (he.1 rfl);have h9:=eT 9 (he.2.1 rfl);have hf0:=eF A 105;exact cP (f:=105) (args:=#[.agg #[.bool s1,.slice a1 l1 c1],.agg #[.bool s4,.slice a4 l4 c4]]) (mul1_any _ _ _ _ _ _ _ (i1.on hb) (i4.on hb) (cs4 k1.num) (cs4 k2.den))
 ·intro A w1 hA hL hS he;have h3:A.eval (.tmp 3)=.pointer (some ⟨w.heap.size+1,0,none⟩):=hA 3 rfl;exact pZ rfl
 ·intro A w1 hA hL hS he;have hb:=hL.below;have h11:=eT 11 (he.1 rfl);have c0:=((B2).on hb).at1 0 _ rfl;have c1:=((B2).on hb).at1 1 _ rfl;exact pZ rfl
 ·intro A w1 hA hL hS he;have h2:A.eval (.tmp 2)=.pointer (some ⟨w.heap.size,0,none⟩):=hA 2 rfl;exact pZ rfl
 ·intro A w1 hA hL hS he;have hb:=hL.below;have h13:=eT 13 (he.1 rfl);have c0:=((B1).on hb).at1 2 _ rfl;have c1:=((B1).on hb).at1 3 _ rfl;exact pZ rfl
 ·intro A w1 hA hL hS he;have hb:=hS rfl;have h12:=eT 12 (he.1 rfl);have h14:=eT 14 (he.2.1 rfl);have hf0:=eF A 105;exact cP (f:=105) (args:=#[.agg #[.bool s3,.slice a3 l3 c3],.agg #[.bool s2,.slice a2 l2 c2]]) (mul1_any _ _ _ _ _ _ _ (i3.on hb) (i2.on hb) (cs4 k2.num) (cs4 k1.den))
 ·intro A w1 hA hL hS he;have hb:=hS rfl;obtain⟨v10,h10,f10⟩:=fT 10 (he.1 rfl);obtain⟨v15,h15,f15⟩:=fT 15 (he.2.1 rfl);have hf0:=eF A 108;refine goOn_plain rfl ?_;refine stepG_call (f:=108) (args:=#[v10,v15]) rfl rfl ?_ ?_
  ·exact gZ
  ·obtain⟨n10,m10,rfl,i10⟩:=f10;obtain⟨n15,m15,rfl,i15⟩:=f15;refine (add1_any _ _ _ _ _ _ _ i10 i15 cb1 cb2).mono ?_;rintro e w' ⟨neg,m,rfl,hi,hb'⟩;exact⟨_,rfl,hb',neg,m,rfl,hi⟩
 ·intro A w1 hA hL hS he;refine goOn_plain rfl ?_;refine stepG_box rfl rfl ((Okr.none).lr hL) hL.1.size (by generalize A.eval=ev at *;go_simp) (fun _ _ h=>h)
 ·intro W2 hL2;have hb2:=hL2.below;simp only [TailL,FactL.eq,FactL.int,FactL.box,FactL.of,lZ];rintro _ - _ - _ ⟨n16,m16,rfl,i16⟩ v5 ⟨x,-,hBx,rfl,B5⟩;obtain⟨a5,k5,q5,rfl,-,-⟩:=i16.shape;go_frame;have C1:=B1.on hb2;have C2:=B2.on hb2;have C3:=B3.on hb2;have hlt:=B3.lt
  go_upto_region 2 with (refine wpList_store_blk rfl _ (.tmp 5) (.tmp 16) rfl _ _ _ _ rfl rfl B5 rfl sizeInt i16.ones ?_;intro w3 R3 gr3)
  have D1:=C1.grown gr3 (by omega);have D2:=C2.grown gr3 (by omega);have D3:=C3.grown gr3 (by omega);have j16:=i16.stored gr3 B5 (by decide);have j2:=(i2.on hb2).stored gr3 B5 (by decide);have j4:=(i4.on hb2).stored gr3 B5 (by decide);have hb3:Below W.heap.size W w3:=hb2.trans ((grown_below gr3 (Nat.le_of_lt B5.lt) (Nat.le_refl _)).mono (by omega));clear C1 C2 C3 B5 gr3 i16 hb2 hL2;refine wp_region_L mixed (none) (0) (Okr.none) [.eq (.agg #[.bool n16,.slice a5 k5 q5]),.eq (.pointer (some ⟨w.heap.size,2,none⟩)),.eq (.agg #[.bool s2,.slice a2 l2 c2]),.eq (.pointer (some ⟨w.heap.size+1,2,none⟩)),.eq (.agg #[.bool s4,.slice a4 l4 c4]),.int (by decide) (((p.den:Int)*(q.den:Int))),.rat (by decide) ((Rat.divInt (p.num*(q.den:Int)+q.num*(p.den:Int)) ((p.den:Int)*(q.den:Int))))] [17,18,19,20,21,22,23] rfl rfl rfl rfl ⟨?_,?_,?_,?_,?_,?_,?_,trivial⟩ ?_
  ·intro A w1 hA hL hS he;have hb:=hL.below;have h5:A.eval (.tmp 5)=.pointer (some ⟨x,0,none⟩):=hA 5 rfl;have c0:=((R3).on hb).at1 0 _ rfl;have c1:=((R3).on hb).at1 1 _ rfl;exact pZ rfl
  ·intro A w1 hA hL hS he;have h2:A.eval (.tmp 2)=.pointer (some ⟨w.heap.size,0,none⟩):=hA 2 rfl;exact pZ rfl
  ·intro A w1 hA hL hS he;have hb:=hL.below;have h18:=eT 18 (he.1 rfl);have c0:=((D1).on hb).at1 2 _ rfl;have c1:=((D1).on hb).at1 3 _ rfl;exact pZ rfl
  ·intro A w1 hA hL hS he;have h3:A.eval (.tmp 3)=.pointer (some ⟨w.heap.size+1,0,none⟩):=hA 3 rfl;exact pZ rfl
  ·intro A w1 hA hL hS he;have hb:=hL.below;have h20:=eT 20 (he.1 rfl);have c0:=((D2).on hb).at1 2 _ rfl;have c1:=((D2).on hb).at1 3 _ rfl;exact pZ rfl
  ·intro A w1 hA hL hS he;have hb:=hS rfl;have h19:=eT 19 (he.1 rfl);have h21:=eT 21 (he.2.1 rfl);have hf0:=eF A 105;exact cP (f:=105) (args:=#[.agg #[.bool s2,.slice a2 l2 c2],.agg #[.bool s4,.slice a4 l4 c4]]) (mul1_any _ _ _ _ _ _ _ (j2.on hb) (j4.on hb) (cs4 k1.den) (cs4 k2.den))
  ·intro A w1 hA hL hS he;have hb:=hS rfl;have h17:=eT 17 (he.1 rfl);obtain⟨v22,h22,f22⟩:=fT 22 (he.2.1 rfl);have hf0:=eF A 107;refine goOn_plain rfl ?_;refine stepG_call (f:=107) (args:=#[.agg #[.bool n16,.slice a5 k5 q5],v22]) rfl rfl ?_ ?_
   ·exact gZ
   ·obtain⟨n22,m22,rfl,i22⟩:=f22;refine (of3_any _ _ _ _ _ _ _ (j16.on hb) i22 sb db dz df).mono ?_;rintro e w' ⟨v,rfl,hi,hb'⟩;exact⟨_,rfl,hb',hi⟩
  ·intro w4 hL4;have hb4:=hL4.below;simp only [TailL,FactL.eq,FactL.int,FactL.rat,FactL.of,lZ];rintro _ - v23 h23;obtain⟨t1,b1,g1,d1,t2,b2,g2,d2,rfl,u1,u2⟩:=h23;go_frame;have E3:=D3.on hb4
   go_wp2_with (refine wpList_store_blk rfl _ (.tmp 4) (.tmp 23) rfl _ _ _ _ rfl rfl E3 rfl sizeRat isRat_ones ?_;intro w5 R gr)
   exact ret_blk rfl rfl rfl R Tryz.underlying41 rfl sizeRat (rat_end hb0 (hb3.trans (hb4.mono hb3.size)) (by omega) E3 ⟨_,_,_,_,_,_,_,_,rfl,u1,u2⟩ gr)
theorem mul2_any (v1 v2:Value) (p q:Rat) (w:World) (h1:IsRat w v1 p) (h2:IsRat w v2 q) (k1:Rs p) (k2:Rs q) :
  Calls Tryz.prog 75 #[v1,v2] w (RetRat w (p*q)):=by
 rw [<- divInt_mul];obtain⟨s1,a1,l1,c1,s2,a2,l2,c2,rfl,i1,i2⟩:=h1;obtain⟨s3,a3,l3,c3,s4,a4,l4,c4,rfl,i3,i4⟩:=h2;obtain⟨df,db,dz⟩:=densS k1 k2;have sb:nbits (p.num*q.num).natAbs<=CS / 4:=by have:=nbits_mul p.num.natAbs q.num.natAbs;have:=k1.2;have:=k2.2;rw [Int.natAbs_mul];unfold CS at *;omega
 go_enter Tryz.func75,Tryz.ntmps75
 go_upto_region 1 with (fail)
 refine abs3 fun W hb0 B1 B2 B3 hsz=>?_;replace i1:=i1.on hb0;replace i2:=i2.on hb0;replace i3:=i3.on hb0;replace i4:=i4.on hb0;refine wp_region_L mixed (none) (0) (Okr.none) [.eq (.pointer (some ⟨w.heap.size,0,none⟩)),.eq (.agg #[.bool s1,.slice a1 l1 c1]),.eq (.pointer (some ⟨w.heap.size+1,0,none⟩)),.eq (.agg #[.bool s3,.slice a3 l3 c3]),.int (by decide) ((p.num*q.num)),.eq (.pointer (some ⟨w.heap.size,2,none⟩)),.eq (.agg #[.bool s2,.slice a2 l2 c2]),.eq (.pointer (some ⟨w.heap.size+1,2,none⟩)),.eq (.agg #[.bool s4,.slice a4 l4 c4]),.int (by decide) (((p.den:Int)*(q.den:Int))),.rat (by decide) ((Rat.divInt (p.num*q.num) ((p.den:Int)*(q.den:Int))))] [5,6,7,8,9,10,11,12,13,14,15] rfl rfl rfl rfl ⟨?_,?_,?_,?_,?_,?_,?_,?_,?_,?_,?_,trivial⟩ ?_
 ·intro A w1 hA hL hS he;have h2:A.eval (.tmp 2)=.pointer (some ⟨w.heap.size,0,none⟩):=hA 2 rfl;exact pZ rfl
 ·intro A w1 hA hL hS he;have hb:=hL.below;have h5:=eT 5 (he.1 rfl);have c0:=((B1).on hb).at1 0 _ rfl;have c1:=((B1).on hb).at1 1 _ rfl;exact pZ rfl
 ·intro A w1 hA hL hS he;have h3:A.eval (.tmp 3)=.pointer (some ⟨w.heap.size+1,0,none⟩):=hA 3 rfl;exact pZ rfl
 ·intro A w1 hA hL hS he;have hb:=hL.below;have h7:=eT 7 (he.1 rfl);have c0:=((B2).on hb).at1 0 _ rfl;have c1:=((B2).on hb).at1 1 _ rfl;exact pZ rfl
 ·intro A w1 hA hL hS he;have hb:=hS rfl;have h6:=eT 6 (he.1 rfl);have h8:=eT 8 (he.2.1 rfl);have hf0:=eF A 105;exact cP (f:=105) (args:=#[.agg #[.bool s1,.slice a1 l1 c1],.agg #[.bool s3,.slice a3 l3 c3]]) (mul1_any _ _ _ _ _ _ _ (i1.on hb) (i3.on hb) (cs4 k1.num) (cs4 k2.num))
 ·intro A w1 hA hL hS he;have h2:A.eval (.tmp 2)=.pointer (some ⟨w.heap.size,0,none⟩):=hA 2 rfl;exact pZ rfl
 ·intro A w1 hA hL hS he;have hb:=hL.below;have h10:=eT 10 (he.1 rfl);have c0:=((B1).on hb).at1 2 _ rfl;have c1:=((B1).on hb).at1 3 _ rfl;exact pZ rfl
 ·intro A w1 hA hL hS he;have h3:A.eval (.tmp 3)=.pointer (some ⟨w.heap.size+1,0,none⟩):=hA 3 rfl;exact pZ rfl
 ·intro A w1 hA hL hS he;have hb:=hL.below;have h12:=eT 12 (he.1 rfl);have c0:=((B2).on hb).at1 2 _ rfl;have c1:=((B2).on hb).at1 3 _ rfl;exact pZ rfl
 ·intro A w1 hA hL hS he;have hb:=hS rfl;have h11:=eT 11 (he.1 rfl);have h13:=eT 13 (he.2.1 rfl);have hf0:=eF A 105;exact cP (f:=105) (args:=#[.agg #[.bool s2,.slice a2 l2 c2],.agg #[.bool s4,.slice a4 l4 c4]]) (mul1_any _ _ _ _ _ _ _ (i2.on hb) (i4.on hb) (cs4 k1.den) (cs4 k2.den))
 ·intro A w1 hA hL hS he;have hb:=hS rfl;obtain⟨v9,h9,f9⟩:=fT 9 (he.1 rfl);obtain⟨v14,h14,f14⟩:=fT 14 (he.2.1 rfl);have hf0:=eF A 107;refine goOn_plain rfl ?_;refine stepG_call (f:=107) (args:=#[v9,v14]) rfl rfl ?_ ?_
  ·exact gZ
  ·obtain⟨n9,m9,rfl,i9⟩:=f9;obtain⟨n14,m14,rfl,i14⟩:=f14;refine (of3_any _ _ _ _ _ _ _ i9 i14 sb db dz df).mono ?_;rintro e w' ⟨v,rfl,hi,hb'⟩;exact⟨_,rfl,hb',hi⟩
 ·intro w4 hL4;have hb4:=hL4.below;simp only [TailL,FactL.eq,FactL.int,FactL.rat,FactL.of,lZ];rintro _ - _ - v23 h23;obtain⟨t1,b1,g1,d1,t2,b2,g2,d2,rfl,u1,u2⟩:=h23;go_frame;have E3:=B3.on hb4
  go_wp2_with (refine wpList_store_blk rfl _ (.tmp 4) (.tmp 15) rfl _ _ _ _ rfl rfl E3 rfl sizeRat isRat_ones ?_;intro w5 R gr)
  exact ret_blk rfl rfl rfl R Tryz.underlying41 rfl sizeRat (rat_end hb0 hb4 (by omega) E3 ⟨_,_,_,_,_,_,_,_,rfl,u1,u2⟩ gr)
theorem rat_same {p q:Rat}:decide (p=q)=(decide (p.num=q.num) && decide ((p.den:Int)=(q.den:Int))):=by
 rw [Bool.eq_iff_iff];simp only [decide_eq_true_eq,Bool.and_eq_true];constructor
 ·rintro rfl;exact⟨rfl,rfl⟩
 ·rintro⟨h1,h2⟩;exact Rat.ext h1 (by omega)
theorem same2_any (v1 v2:Value) (p q:Rat) (w:World) (h1:IsRat w v1 p) (h2:IsRat w v2 q) (k1:Rk p) (k2:Rk q) :
  Calls Tryz.prog 23 #[v1,v2] w (Ret w (.bool (decide (p=q)))):=by
 obtain⟨s1,a1,l1,c1,s2,a2,l2,c2,rfl,i1,i2⟩:=h1;obtain⟨s3,a3,l3,c3,s4,a4,l4,c4,rfl,i3,i4⟩:=h2;have he:=rat_same (p:=p) (q:=q);have HN:=fun W (hb:Below w.heap.size w W)=>same1_any _ _ _ _ _ _ W (i1.on hb) (i3.on hb) k1.num' k2.num';have HD:=fun W (hb:Below w.heap.size w W)=>same1_any _ _ _ _ _ _ W (i2.on hb) (i4.on hb) k1.den' k2.den';generalize decide ((p.den:Int)=(q.den:Int))=dd at *;generalize decide (p.num=q.num)=dn at *;replace he:=zH he
 go_enter Tryz.func23,Tryz.ntmps23
 go_upto_region 1 with (fail)
 refine abs2 fun W hb0 B1 B2 hsz=>?_;cases dn
 ·skip
  refine wp_region_S trivial (none) (0) (Okr.none) [.eq (.pointer (some ⟨w.heap.size,0,none⟩)),.eq (.agg #[.bool s1,.slice a1 l1 c1]),.eq (.pointer (some ⟨w.heap.size+1,0,none⟩)),.eq (.agg #[.bool s3,.slice a3 l3 c3]),.ret (.bool false),.eq (.bool false),.eq undef,.eq undef,.eq undef,.eq undef,.eq undef,.eq (.bool false)] [5,6,7,8,9,10,11,12,13,14,15,16] rfl rfl rfl rfl ⟨?_,?_,?_,?_,?_,?_,?_,?_,?_,?_,?_,?_,trivial⟩ ?_
  ·intro A w1 hA hL hS he;have h2:A.eval (.tmp 2)=.pointer (some ⟨w.heap.size,0,none⟩):=hA 2 rfl;exact pZ rfl
  ·intro A w1 hA hL hS he;have hb:=hL.below;have h5:=eT 5 (he.1 rfl);have c0:=((B1).on hb).at1 0 _ rfl;have c1:=((B1).on hb).at1 1 _ rfl;exact pZ rfl
  ·intro A w1 hA hL hS he;have h3:A.eval (.tmp 3)=.pointer (some ⟨w.heap.size+1,0,none⟩):=hA 3 rfl;exact pZ rfl
  ·intro A w1 hA hL hS he;have hb:=hL.below;have h7:=eT 7 (he.1 rfl);have c0:=((B2).on hb).at1 0 _ rfl;have c1:=((B2).on hb).at1 1 _ rfl;exact pZ rfl
  ·intro A w1 hA hL hS he;have hb:=hS rfl;have h6:=eT 6 (he.1 rfl);have h8:=eT 8 (he.2.1 rfl);have hf0:=eF A 69;refine goOn_plain rfl ?_;refine stepG_call (f:=69) (args:=#[.agg #[.bool s1,.slice a1 l1 c1],.agg #[.bool s3,.slice a3 l3 c3]]) rfl rfl ?_ ?_
   ·exact gZ
   ·refine (HN _ (hb0.trans (hb.mono hb0.size))).mono ?_;rintro e w' ⟨rfl,hb'⟩;exact⟨_,rfl,hb',rfl⟩
  ·exact fun _ _ _ _ _ e=>xM rfl (e.1 rfl)
  ·exact fun _ _ _ _ _ e=>nO false (e.1 rfl)
  ·exact fun _ _ _ _ _ e=>nO false (e.2.1 rfl)
  ·exact fun _ _ _ _ _ e=>nO false (e.1 rfl)
  ·exact fun _ _ _ _ _ e=>nO false (e.2.1 rfl)
  ·exact fun _ _ _ _ _ e=>nO false (e.2.2.1 rfl)
  ·exact fun _ _ _ _ _ e=>goOn_plain rfl (stepG_pk rfl (e.1 rfl) rfl rfl)
  ·intro W2 hL2;simp only [TailL,FactL.eq,FactL.ret,lZ];go_frame;go_wp2;go_ret;exact⟨by rw [he.out] <;> rfl,hb0.trans (hL2.below.mono hb0.size)⟩
 ·skip
  refine wp_region_S trivial (none) (0) (Okr.none) [.eq (.pointer (some ⟨w.heap.size,0,none⟩)),.eq (.agg #[.bool s1,.slice a1 l1 c1]),.eq (.pointer (some ⟨w.heap.size+1,0,none⟩)),.eq (.agg #[.bool s3,.slice a3 l3 c3]),.ret (.bool true),.eq (.bool true),.eq (.pointer (some ⟨w.heap.size,2,none⟩)),.eq (.agg #[.bool s2,.slice a2 l2 c2]),.eq (.pointer (some ⟨w.heap.size+1,2,none⟩)),.eq (.agg #[.bool s4,.slice a4 l4 c4]),.ret (.bool dd),.eq (.bool dd)] [5,6,7,8,9,10,11,12,13,14,15,16] rfl rfl rfl rfl ⟨?_,?_,?_,?_,?_,?_,?_,?_,?_,?_,?_,?_,trivial⟩ ?_
  ·intro A w1 hA hL hS he;have h2:A.eval (.tmp 2)=.pointer (some ⟨w.heap.size,0,none⟩):=hA 2 rfl;exact pZ rfl
  ·intro A w1 hA hL hS he;have hb:=hL.below;have h5:=eT 5 (he.1 rfl);have c0:=((B1).on hb).at1 0 _ rfl;have c1:=((B1).on hb).at1 1 _ rfl;exact pZ rfl
  ·intro A w1 hA hL hS he;have h3:A.eval (.tmp 3)=.pointer (some ⟨w.heap.size+1,0,none⟩):=hA 3 rfl;exact pZ rfl
  ·intro A w1 hA hL hS he;have hb:=hL.below;have h7:=eT 7 (he.1 rfl);have c0:=((B2).on hb).at1 0 _ rfl;have c1:=((B2).on hb).at1 1 _ rfl;exact pZ rfl
  ·intro A w1 hA hL hS he;have hb:=hS rfl;have h6:=eT 6 (he.1 rfl);have h8:=eT 8 (he.2.1 rfl);have hf0:=eF A 69;refine goOn_plain rfl ?_;refine stepG_call (f:=69) (args:=#[.agg #[.bool s1,.slice a1 l1 c1],.agg #[.bool s3,.slice a3 l3 c3]]) rfl rfl ?_ ?_
   ·exact gZ
   ·refine (HN _ (hb0.trans (hb.mono hb0.size))).mono ?_;rintro e w' ⟨rfl,hb'⟩;exact⟨_,rfl,hb',rfl⟩
  ·exact fun _ _ _ _ _ e=>xM rfl (e.1 rfl)
  ·intro A w1 hA hL hS he;have h10:=eT 10 (he.1 rfl);have h2:A.eval (.tmp 2)=.pointer (some ⟨w.heap.size,0,none⟩):=hA 2 rfl;exact yZ h10 rfl
  ·intro A w1 hA hL hS he;have hb:=hL.below;have h10:=eT 10 (he.2.1 rfl);have h11:=eT 11 (he.1 rfl);have c0:=((B1).on hb).at1 2 _ rfl;have c1:=((B1).on hb).at1 3 _ rfl;exact yZ h10 rfl
  ·intro A w1 hA hL hS he;have h10:=eT 10 (he.1 rfl);have h3:A.eval (.tmp 3)=.pointer (some ⟨w.heap.size+1,0,none⟩):=hA 3 rfl;exact yZ h10 rfl
  ·intro A w1 hA hL hS he;have hb:=hL.below;have h10:=eT 10 (he.2.1 rfl);have h13:=eT 13 (he.1 rfl);have c0:=((B2).on hb).at1 2 _ rfl;have c1:=((B2).on hb).at1 3 _ rfl;exact yZ h10 rfl
  ·intro A w1 hA hL hS he;have hb:=hS rfl;have h10:=eT 10 (he.2.2.1 rfl);have h12:=eT 12 (he.1 rfl);have h14:=eT 14 (he.2.1 rfl);have hf0:=eF A 69;refine goOn_yes rfl rfl h10 ?_;refine stepG_call (f:=69) (args:=#[.agg #[.bool s2,.slice a2 l2 c2],.agg #[.bool s4,.slice a4 l4 c4]]) rfl rfl ?_ ?_
   ·exact gZ
   ·refine (HD _ (hb0.trans (hb.mono hb0.size))).mono ?_;rintro e w' ⟨rfl,hb'⟩;exact⟨_,rfl,hb',rfl⟩
  ·exact fun _ _ _ _ _ e=>pK rfl (e.1 rfl) (e.2.1 rfl)
  ·intro W2 hL2;simp only [TailL,FactL.eq,FactL.ret,lZ];go_frame;go_wp2;go_ret;exact⟨by rw [he.out] <;> rfl,hb0.trans (hL2.below.mono hb0.size)⟩
theorem Ex.gt_at {e f:Ex} {i:Nat} (hi:i<4) (h:∀ j,i<j->j<4->e.get j=f.get j) (hne:e.get i≠f.get i):e.gt f=decide (f.get i<e.get i):=by
 obtain⟨a,b,c,d⟩:=e;obtain⟨a',b',c',d'⟩:=f;have h1:=h 1;have h2:=h 2;have h3:=h 3;rw [Bool.eq_iff_iff,Ex.gt_iff,decide_eq_true_iff];obtain rfl|rfl|rfl|rfl:i=0\/i=1\/i=2\/i=3:=by omega
 all_goals simp [Ex.get] at *
 all_goals omega
theorem Ex.eq_get {e f:Ex} (h:∀ j,j<4->e.get j=f.get j):e=f :=
 Ex.ext' (h 0 (by omega)) (h 1 (by omega)) (h 2 (by omega)) (h 3 (by omega))
theorem greater_any (e f:Ex) (w:World):Calls Tryz.prog 68 #[.agg (exC e).toArray,.agg (exC f).toArray] w (Ret w (.bool (e.gt f))):=by
 have hg0:=fun i hi h hne=>Ex.gt_at (e:=e) (f:=f) (i:=i) hi h hne;have hg1:(∀ j,j<4->e.get j=f.get j)->e.gt f=false:=fun h=>by rw [Ex.eq_get h];exact Ex.gt_irrefl _
 have hc1:=fun k hk=>exC_get e k hk;have hc2:=fun k hk=>exC_get f k hk;generalize e.gt f=R at *;obtain⟨x1,x2,x3,x4⟩:=e;obtain⟨y1,y2,y3,y4⟩:=f;simp only [exC] at hc1 hc2 ⊢;replace hg0:=zH hg0;replace hg1:=zH hg1
 go_enter Tryz.func68,Tryz.ntmps68
 go_upto_region 1 with (fail)
 refine abs2 fun W hb0 B1 B2 hsz=>?_;go_wp2
 go_loopw [5] (fun i wr=>∃ k:Nat,k<=4/\i=.int .i64 ((k:Int)-1)/\Hid (∀ j,k<=j->j<4->Ex.get (x1,x2,x3,x4) j=Ex.get (y1,y2,y3,y4) j)/\Below W.heap.size W wr) (fun i _=>(intOf i+1).toNat)
 case atStart=>exact⟨4,by omega,rfl,zH (fun j h1 h2=>by omega),Below.refl _ _⟩
 case round =>
  obtain⟨k,hk,rfl,hd,hbr⟩:=hrel;by_cases h0:1<=k
  ·obtain⟨i,rfl⟩:∃ i,k=i+1:=⟨k - 1,by omega⟩;have hi4:i<4:=by omega
   have hi4':(i:Int)<4:=by omega
   have hx:=hc1 i hi4;have hy:=hc2 i hi4;have hst:=hg0.out i hi4 (fun j h1 h2=>hd.out j h1 h2)
   have hde:Ex.get (x1,x2,x3,x4) i=Ex.get (y1,y2,y3,y4) i->∀ j,i<=j->j<4->Ex.get (x1,x2,x3,x4) j=Ex.get (y1,y2,y3,y4) j:=fun h j h1 h2=>by
    rcases Nat.eq_or_lt_of_le h1 with h'|h'
    ·rw [<- h'];exact h
    ·exact hd.out j h' h2
   replace hde:=zH hde;have HX:Hid (∃ x,x=Ex.get (x1,x2,x3,x4) i):=⟨_,rfl⟩;obtain⟨x,ex⟩:=HX.out;have HY:Hid (∃ y,y=Ex.get (y1,y2,y3,y4) i):=⟨_,rfl⟩;obtain⟨y,ey⟩:=HY.out;rw [<- ex] at hx hst;rw [<- ey] at hy hst;replace ex:=zH ex;replace ey:=zH ey;clear hd HX HY;have hi1:(((i+1:Nat):Int) - 1)=(i:Int):=by omega
   rw [hi1];have f1:∀ W',Below W.heap.size W W'->W'.cell? ⟨w.heap.size,i,none⟩=some (.int .i64 x):=fun W' hb=>(B1.on hb).at1 i _ hx;have f2:∀ W',Below W.heap.size W W'->W'.cell? ⟨w.heap.size+1,i,none⟩=some (.int .i64 y):=fun W' hb=>(B2.on hb).at1 i _ hy;clear hx hy
   go_upto_region 4 with (fail)
   refine wp_region_L mixed (none) (0) (Okr.none) [.eq (.int .i64 i),.eq (.pointer (some ⟨w.heap.size,i,none⟩)),.eq (.int .i64 x),.eq (.int .i64 i),.eq (.pointer (some ⟨w.heap.size+1,i,none⟩)),.eq (.int .i64 y),.eq (.bool (x != y))] [10,11,12,13,14,15,16] rfl rfl rfl rfl ⟨?_,?_,?_,?_,?_,?_,?_,trivial⟩ ?_
   ·exact fun _ _ a _ _ _=>xM rfl (a 5 rfl)
   ·intro A w1 hA hL hS he;have h2:A.eval (.tmp 2)=.pointer (some ⟨w.heap.size,0,none⟩):=hA 2 rfl;have h10:=eT 10 (he.1 rfl);exact pZ rfl
   ·intro A w1 hA hL hS he;have h11:=eT 11 (he.1 rfl);refine goOn_plain rfl ?_;have c0:=f1 w1 (hbr.trans (hL.below.mono hbr.size));exact stepG_pure rfl rfl gZ
   ·exact fun _ _ a _ _ _=>xM rfl (a 5 rfl)
   ·intro A w1 hA hL hS he;have h3:A.eval (.tmp 3)=.pointer (some ⟨w.heap.size+1,0,none⟩):=hA 3 rfl;have h13:=eT 13 (he.1 rfl);exact pZ rfl
   ·intro A w1 hA hL hS he;have h14:=eT 14 (he.1 rfl);refine goOn_plain rfl ?_;have c0:=f2 w1 (hbr.trans (hL.below.mono hbr.size));exact stepG_pure rfl rfl gZ
   ·intro A w1 hA hL hS he;have h12:=eT 12 (he.1 rfl);have h15:=eT 15 (he.2.1 rfl);exact pZ rfl
   ·intro W2 hL2;simp only [TailL,FactL.eq,lZ];go_frame;have hb2:=hbr.trans (hL2.below.mono hbr.size);by_cases hxy:x=y
    ·have HD:=zH (hde.out (by rw [<- ex.out,<- ey.out];exact hxy));have hxb:(x != y)=false:=by simp [hxy]
     rw [hxb];clear f1 f2;go_wp2;go_roundw
     case rel=>exact⟨i,by omega,by go_num,HD,hb2⟩
     case measure=>simp [intOf]
    ·have HR:=zH (hst hxy);have hxb:(x != y)=true:=by simp [hxy]
     rw [hxb]
     go_upto_region 5 with (fail)
     refine wp_region_L mixed (none) (0) (Okr.none) [.eq (.int .i64 i),.eq (.pointer (some ⟨w.heap.size,i,none⟩)),.eq (.int .i64 x),.eq (.int .i64 i),.eq (.pointer (some ⟨w.heap.size+1,i,none⟩)),.eq (.int .i64 y),.eq (.bool (decide (y<x)))] [17,18,19,20,21,22,23] rfl rfl rfl rfl ⟨?_,?_,?_,?_,?_,?_,?_,trivial⟩ ?_
     ·exact fun _ _ a _ _ _=>xM rfl (a 5 rfl)
     ·intro A w1 hA hL hS he;have h2:A.eval (.tmp 2)=.pointer (some ⟨w.heap.size,0,none⟩):=hA 2 rfl;have h17:=eT 17 (he.1 rfl);exact pZ rfl
     ·intro A w1 hA hL hS he;have h18:=eT 18 (he.1 rfl);refine goOn_plain rfl ?_;have c0:=f1 w1 (hb2.trans (hL.below.mono hb2.size));exact stepG_pure rfl rfl gZ
     ·exact fun _ _ a _ _ _=>xM rfl (a 5 rfl)
     ·intro A w1 hA hL hS he;have h3:A.eval (.tmp 3)=.pointer (some ⟨w.heap.size+1,0,none⟩):=hA 3 rfl;have h20:=eT 20 (he.1 rfl);exact pZ rfl
     ·intro A w1 hA hL hS he;have h21:=eT 21 (he.1 rfl);refine goOn_plain rfl ?_;have c0:=f2 w1 (hb2.trans (hL.below.mono hb2.size));exact stepG_pure rfl rfl gZ
     ·intro A w1 hA hL hS he;have h19:=eT 19 (he.1 rfl);have h22:=eT 22 (he.2.1 rfl);exact pZ rfl
     ·intro W3 hL3;simp only [TailL,FactL.eq,lZ];go_frame;go_wp2;go_ret;exact⟨by rw [HR.out] <;> rfl,hb0.trans ((hb2.trans (hL3.below.mono hb2.size)).mono hb0.size)⟩
  ·obtain rfl:k=0:=by omega
   have HD:=zH (hg1.out (fun j hj=>hd.out j (by omega) hj));go_wp2;go_ret;exact⟨by rw [HD.out] <;> rfl,hb0.trans (hbr.mono hb0.size)⟩
theorem natural7_any (e:Ex) (w:World):Calls Tryz.prog 65 #[.agg (exC e).toArray] w (Ret w (.bool e.nat)):=by
 obtain⟨x1,x2,x3,x4⟩:=e
 have hR:Ex.nat (x1,x2,x3,x4)=(decide (0<=x1) && decide (0<=x2) && decide (0<=x3) && decide (0<=x4)):=by
  rw [Bool.eq_iff_iff,Ex.nat_iff];simp [Bool.and_eq_true,and_assoc]
 generalize Ex.nat (x1,x2,x3,x4)=R at *;replace hR:=zH hR;simp only [exC]
 go_enter Tryz.func65,Tryz.ntmps65
 go_upto_region 1 with (fail)
 refine abs1 fun W hb0 B hsz=>?_;have e1:=B.at1 0 _ rfl;have e2:=B.at1 1 _ rfl;have e3:=B.at1 2 _ rfl;have e4:=B.at1 3 _ rfl;by_cases h1:0<=x1
 ·by_cases h2:0<=x2
  ·by_cases h3:0<=x3
   ·by_cases h4:0<=x4
    ·have HE:Hid (R=true):=zH (by rw [hR.out];simp [h1,h2,h3,h4]);go_wp2;go_ret;exact⟨by rw [HE.out] <;> rfl,hb0⟩
    ·have HE:Hid (R=false):=zH (by rw [hR.out];simp [h4]);go_wp2;go_ret;exact⟨by rw [HE.out] <;> rfl,hb0⟩
   ·have HE:Hid (R=false):=zH (by rw [hR.out];simp [h3]);go_wp2;go_ret;exact⟨by rw [HE.out] <;> rfl,hb0⟩
  ·have HE:Hid (R=false):=zH (by rw [hR.out];simp [h2]);go_wp2;go_ret;exact⟨by rw [HE.out] <;> rfl,hb0⟩
 ·have HE:Hid (R=false):=zH (by rw [hR.out];simp [h1]);go_wp2;go_ret;exact⟨by rw [HE.out] <;> rfl,hb0⟩
end Go.Proofs.YtopclbeomcggiaaGreat
end
