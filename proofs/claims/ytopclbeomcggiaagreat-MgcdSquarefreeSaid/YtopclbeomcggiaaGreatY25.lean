/- mpoly.Sub, Partial. -/
import Derived.Test.YtopclbeomcggiaaGreatY24
set_option linter.unusedVariables false
set_option linter.unusedSimpArgs false
set_option maxHeartbeats 16000000
set_option maxRecDepth 100000
section
namespace Go.Proofs.YtopclbeomcggiaaGreat
open Go.RowKit Q Go.WideMaps Go.Maps
end Go.Proofs.YtopclbeomcggiaaGreat
namespace Q
open Go Go.RowKit Q Go.Proofs.YtopclbeomcggiaaGreat
theorem di.base_mono{α:Type}{e:El α}{base i:Nat}{w:World}{v:Value}{l:List α}(h:di e base w v l)(hb:i<=base):di e i w v l:=by
 obtain⟨p,⟨j,d⟩,k⟩:=h;refine⟨p,⟨j,?_⟩,k⟩;rcases d with d|⟨g,cap,b,m,n,o⟩
 ·exact .inl d
 ·exact .inr ⟨g,cap,b,m,Nat.le_trans hb n,o⟩
end Q
namespace Go.Proofs.YtopclbeomcggiaaGreat
open Go.RowKit Q Go.WideMaps Go.Maps
theorem UF(q:Rat):q*(-1)=-q:=gR
theorem Rk.neg{q:Rat}(h:Rk q):Rk (-q):=by unfold Rk at *;rw[Rat.neg_den,Rat.neg_num,Int.natAbs_neg];exact h
theorem Rk.m1:Rk (-1):=⟨by unfold jF;decide,by unfold jF;decide⟩
theorem FP(p:List aj):bS p (-1)=p.map λt=>(t.1,t.2*(-1)):=by rw[bS,if_neg dM]
theorem JK{p:List aj}(h:∀t∈p,Rk t.2):∀t∈bS p (-1),Rk t.2:=by rw[FP];intro t d;obtain⟨s,b,rfl⟩:=List.mem_map.1 d;simp only[UF];exact(h s b).neg
theorem NV(l m:Value)(p q:List aj)(w:World)(hp:ai w l p)(hq:ai w m q)(r:∀t∈p,Rk t.2)(k:∀t∈q,Rk t.2)(o:p.length<=100000000)(j:q.length<=100000000)(d:bQ p)(i:bQ q) :
  Calls Tryz.prog 74 #[l,m] w (xm w (gp p q)):=by
 have n:=JK k;have b:(bS q (-1)).length<=100000000:=by rw[FP];simpa using j
 have hm:=rH d (i.scale (-1))
 go_enter Tryz.func74,Tryz.ntmps74
 go_wp2_with (first
  | (go_at_call 47;refine(tq (-1) _ oM oM).mono ?_;rintro en W1 ⟨v7,rfl,h7,hb1⟩)
  | (go_at_call 48;refine(FO _ _ q (-1) _ (hq.on hb1) h7 Rk.m1 k j).mono ?_;rintro en W2 ⟨v8,rfl,h8,hb2⟩)
  | (go_at_call 106;refine(UB _ _ p _ _ (hp.on (hb1.trans (hb2.mono hb1.size))) h8 r n o b).mono ?_;rintro en W3 ⟨v9,rfl,h9,hb3⟩))
 go_ret;have hb12:=hb1.trans (hb2.mono hb1.size)
 exact⟨_,rfl,by
  rw[gp,<-hm]
  exact h9.base_mono hb12.size,hb12.trans (hb3.mono hb12.size)⟩
theorem H8(e i:Value)(p q:List aj)(w:World)(hp:ai w e p)(hq:ai w i q)(l:∀t∈p,Rk t.2)(m:∀t∈q,Rk t.2)(j:p.length<=100000000)(k:q.length<=100000000)(b:bQ p)(d:bQ q) :
  Calls Tryz.prog 74 #[e,i] w (aP w (gp p q)):=(NV e i p q w hp hq l m j k b d).mono λ_ _ h=>h.poly
theorem ET{p:List aj}{v k:Nat}{t:aj}(h:p[k]?=some t):aS (p.take (k+1)) v=aS (p.take k) v++(if 0<t.1.get v then [(t.1.put v (t.1.get v-1),t.2*(t.1.get v:Rat))]else []):=by
 rw[List.take_add_one,h];simp only[aS,Option.toList_some,List.filter_append,List.map_append]
 congr 1
 by_cases hz:0<t.1.get v
 ·simp[hz]
 ·simp[hz]
theorem JL(vp:Value)(p:List aj)(v:Nat)(w:World)(hp:ai w vp p)(hv:v<4)(D:∀t∈p,Rk t.2/\t.1.get v<=100000000/\Rk (t.1.get v:Rat))(ag:p.length<=100000000) :
  Calls Tryz.prog 73 #[vp,.int .i64 v] w (aP w (aS p v)):=by
 obtain⟨ap,cp,rfl,ac⟩:=hp.shape;replace D:=zH D;have hv4:(v:Int)<4:=oM
 go_enter Tryz.func73,Tryz.ntmps73
 go_wp2
 go_loopw [11,5] (λi o wr=>∃k:Nat,k<=p.length/\i=.int .i64 k/\Hid (bR w.heap.size wr o (aS (p.take k) v))/\(aS (p.take k) v).length<=k/\Below w.heap.size w wr) (λi _ _=>p.length-(intOf i).toNat)
 case atStart=>exact⟨0,oM,rfl,zH (di.nil _ _ _),by simp[aS],Below.refl _ _⟩
 case round =>
  obtain⟨k,Z,rfl,d,ad,hb⟩:=hrel;by_cases I:k<p.length
  ·have s:p[k]?=some p[k]:=gE I;obtain⟨a0,Y,cs,rfl,-,hE,hC⟩:=(hp.on hb).get s;generalize p[k]=t at s hE;have b:=ET (v:=v) s;obtain⟨e,q⟩:=t;obtain⟨r,rfl,n1,x1,k1,d1,n2,x2,k2,d2,rfl,i1,i2⟩:=hE;have hr:=hC.range;have a9:(k:Int)<p.length:=oM;have M:=List.mem_of_getElem? s;have u:=zH (show bO wr (.agg #[.bool n1,.slice x1 k1 d1,.bool n2,.slice x2 k2 d2]) q from⟨n1,x1,k1,d1,n2,x2,k2,d2,rfl,i1,i2⟩);obtain⟨J,a3,L⟩:=D.out _ M;simp only at J a3 L b;have a2:Ex.get e v=Ex.get e v:=rfl;have n:=oK e v hv [.bool n1,.slice x1 k1 d1,.bool n2,.slice x2 k2 d2];have y:=tH e v hv (Ex.get e v - 1);generalize hE':Ex.put e v (Ex.get e v - 1)=E' at *;generalize hx:Ex.get e v=x at *;clear hC i1 i2 hE' hx a2;replace b:=zH b;obtain⟨e1,e2,e3,e4⟩:=e;simp only[bD,List.cons_append,List.nil_append]at hr n
   go_upto_region 5 with (first
    | (refine ak rfl _ _ 27 rfl aJ Tryz.underlying27 _ 8 96 kM _ _ _ rfl .i64 _ rfl k rfl I a0 Y rfl ?_)
    | (refine wpList_load_mid rfl 43 _ rfl _ _ rfl _ _ hr Tryz.underlying43 rfl kM ?_))
   refine jg λW2 hb2 B hsz2=>?_;have hown2:=zH (d.out.on hb2);have C:=d.out.base_le;have hbW2:=hb.trans (hb2.mono hb.size);have hrat2:=u.out.on hb2;have X:w.heap.size<=wr.heap.size:=hb.size;have a4:∀g,u5.ownBlock=some g->g<wr.heap.size:=λg hg=>(C g hg).2;have l:∀g,u5.ownBlock=some g->w.heap.size<=g:=λg hg=>(C g hg).1;clear hb2 d hr u hb hsz2 C;generalize wr.heap.size=r at *;have z:=B.at1 v _ n;by_cases hx0:0<x
   ·go_upto_region 7 with (fail)
    have a8:IntKind.i64.wrap (x-1)=x-1:=lI oM;have z':=B.at1 v _ n;have hf:=B.frozen v
    go_upto_region 8 with (fail)
    have hl3:=aY (j:=v) B (.int .i64 (x-1));have B3:=B.set v (.int .i64 (x-1));have hset3:=y [.bool n1,.slice x1 k1 d1,.bool n2,.slice x2 k2 d2];simp only[bD,List.cons_append,List.nil_append]at hset3;rw[hset3]at B3;have F:u5.ownBlock≠some r:=λh=>by have:=a4 r h;simp at this
    have hown3:=hown2.out.lr hl3 (aV dM) (.inr F);have hrat3:=hrat2.lr hl3 dM;have hbW3:=hbW2.trans (hl3.belowAt hbW2.size (λk Z=>by cases Z;exact X));rw[if_pos hx0]at b;obtain⟨g1,g2,g3,g4⟩:=E';simp only[bD,List.cons_append,List.nil_append]at B3;generalize W2.setCell ⟨r,v,none⟩ (.int .i64 (x - 1))=W3 at *;clear hl3 hset3 y z z' hf a8 hown2 hrat2 B hbW2 n;refine aC mixed (none) (0) (fM.none) [.eq (.pointer (some ⟨r,4,none⟩)),.eq (.agg #[.bool n1,.slice x1 k1 d1,.bool n2,.slice x2 k2 d2]),.eq (.int .i64 x),.rat dM ((x:Rat)),.rat dM ((q*(x:Rat))),.eq (.pointer (some ⟨r,4,none⟩))] [28,29,30,31,32,33] rfl rfl rfl rfl ⟨λA _ hA _ _ _=>have h7:A.eval (.tmp 7)=.pointer (some ⟨r,0,none⟩):=hA 7 rfl;pZ rfl,λA _ _ hL _ he=>have hb:=hL.below;have h28:=eT 28 (he.1 rfl);have c0:=((B3).on hb).at1 4 _ rfl;have c1:=((B3).on hb).at1 5 _ rfl;have c2:=((B3).on hb).at1 6 _ rfl;have c3:=((B3).on hb).at1 7 _ rfl;pZ rfl,λ_ _ a _ _ _=>xM rfl (a 8 rfl),λA _ _ _ hS he=>have hb:=hS rfl;have h30:=eT 30 (he.1 rfl);have hf0:=eF A 47;cP (f:=47) (args:=#[.int .i64 x]) (tq _ _ oM oM),?_,λA _ hA _ _ _=>have h7:A.eval (.tmp 7)=.pointer (some ⟨r,0,none⟩):=hA 7 rfl;pZ rfl,trivial⟩ ?_
    ·intro A w1 hA hL hS he;have hb:=hS rfl;have h29:=eT 29 (he.1 rfl);obtain⟨v31,h31,f31⟩:=fT 31 (he.2.1 rfl);have hf0:=eF A 88;exact cP (f:=88) (args:=#[.agg #[.bool n1,.slice x1 k1 d1,.bool n2,.slice x2 k2 d2],v31]) (CQ _ _ _ _ _ (hrat3.on hb) f31 J L)
    ·intro W4 hL4;have hb4:=hL4.below;simp only[aU,af.eq,af.rat,af.of,lZ];rintro v31 h31 v32 h32;obtain⟨n5,a5,k5,c5,n6,a6,k6,c6,rfl⟩:=fF h32;go_frame;have hown4:=hown3.on hb4;have B4:=B3.on hb4;have hbW4:=hbW3.trans (hb4.mono hbW3.size);clear hown3 B3 hL4 hb4 h31 hrat3
     go_upto_region 9 with (refine kF rfl _ (.tmp 33) (.tmp 32) rfl r 4 aJ _ _ rfl rfl B4 sM dD dH ?_;intro W5 R5 hl5)
     change Blk W5 r aJ (bD (g1,g2,g3,g4)++[.bool n5,.slice a5 k5 c5,.bool n6,.slice a6 k6 c6])at R5;have hown5:=hown4.lr hl5 (aV dM) (.inr F);have h325:=h32.lr hl5 dM;have hbW5:=hbW4.trans (hl5.belowAt hbW4.size (λk Z=>by cases Z;exact X));have N:some r≠u5.ownBlock:=λh=>F h.symm;obtain⟨G,m⟩:∃G,G=[Value.bool n5,.slice a5 k5 c5,.bool n6,.slice a6 k6 c6]:=⟨_,rfl⟩;have a7:G.length=4:=by rw[m];rfl
     have h8:(bD (g1,g2,g3,g4)++G).length=8:=by rw[List.length_append,a7];rfl
     rw[show(Value.agg #[.bool n5,.slice a5 k5 c5,.bool n6,.slice a6 k6 c6])=.agg G.toArray by rw[m]]at h325;rw[<-m]at R5;clear hown4 B4 hl5 hbW4 h32;refine aN trivial (u5.ownBlock) (aJ) (hown5.okr) [.eq (u5),.eq (.agg (bD (g1,g2,g3,g4)++G).toArray),.new1 aL fw (((g1,g2,g3,g4),q*(x:Rat))),.row aL (w.heap.size) W5.heap.size (aS (p.take k) v++[((g1,g2,g3,g4),q*(x:Rat))])] [34,35,36,37] rfl rfl rfl rfl ⟨λ_ _ a _ _ _=>xM rfl (a 5 rfl),λ_ _ a hL _ _=>pL rfl ((R5.lr hL N).range 0 _ (λj v h=>by rw[Nat.zero_add];exact h)) Tryz.underlying43 (h8) (a 7 rfl),?_,?_,trivial⟩ ?_
     ·intro A w1 hA hL hS he;have h35:=eT 35 (he.1 rfl);refine ae rfl ?_;have hE:(aL:El _).E w1 _ (((g1,g2,g3,g4),q*(x:Rat))):=⟨_,rfl,(h325.lr hL dM).cellsC⟩;refine fo rfl rfl ((hown5.okr).lr hL) hE (bu rfl ?_) (λ_ _ h=>h);simp only[List.map_toArray,List.map_cons,List.map_nil,h35];exact bM _ _ ((aL).len hE)
     ·intro A w1 hA hL hS he;have hb:=hS rfl;have a1:Below w.heap.size w w1:=hbW5.trans (hL.belowAt hbW5.size l);have h34:=eT 34 (he.1 rfl);obtain⟨v36,h36,f36⟩:=fT 36 (he.2.1 rfl);exact ae rfl (dJ rfl rfl rfl Tryz.underlying27 bG h34 h36 (hown5.on hb) rfl rfl (dU f36) (by simp;omega) (a1.size) hL.1.size (λ_ _ h1 h2=>⟨h1,h2⟩))
     ·intro W6 hL6;simp only[aU,af.eq,af.new1,af.row,af.asPure,af.of,af.fragile,lZ];rintro v36 - v37 ⟨hown6,aa⟩;go_frame;have hbW6:=hbW5.trans (hL6.belowAt hbW5.size l);have S:(aS (p.take (k+1)) v).length<=k+1:=by rw[b.out];simp;omega
      go_wp2;go_roundw
      case measure=>simp[intOf];omega
      case rel=>exact⟨k+1,oM,nM,zH (by rw[b.out];exact hown6),S,hbW6⟩
   ·have ab:¬(0:Int)<x:=hx0;rw[if_neg hx0,List.append_nil]at b;go_wp2;go_roundw
    case measure=>simp[intOf];omega
    case rel=>exact⟨k+1,oM,nM,zH (by rw[b.out];exact hown2.out),by rw[b.out];omega,hbW2⟩
  ·obtain rfl:k=p.length:=oM;rw[tL (nL _)]at d;go_wp2;go_ret;exact⟨_,rfl,d.out.isSl,hb⟩
end Go.Proofs.YtopclbeomcggiaaGreat
end
section
namespace Q
end Q
namespace Go.Proofs.YtopclbeomcggiaaGreat
open Go.RowKit Q Go.WideMaps Go.Maps
end Go.Proofs.YtopclbeomcggiaaGreat
end
section
namespace Go.Proofs.YtopclbeomcggiaaGreat
open Go.RowKit Q
theorem zM(v:Value)(q:Rat)(w:World)(h:bO w v q):Calls Tryz.prog 67 #[v] w (pX w (.int .i64 (jG q.num))):=by
 obtain⟨s1,a1,l1,c1,s2,a2,l2,c2,rfl,i1,i2⟩:=h
 go_enter Tryz.func67,Tryz.ntmps67
 go_upto_region 1 with (fail)
 refine jg λW hb0 B1 b=>?_;have e1:=B1.at1 0 _ rfl;have e2:=B1.at1 1 _ rfl
 go_wp2_with (go_at_call 100;refine(qa _ _ _ _ (i1.on hb0)).mono ?_;rintro e w1 ⟨rfl,hb1⟩)
 go_ret;exact⟨rfl,hb0.trans (hb1.mono hb0.size)⟩
theorem gF(n:Int)(w:World)(h1:-4611686018427387904<=n)(h2:n<=4611686018427387904):Calls Tryz.prog 24 #[.int .i64 n] w (qo w n):=by
 go_enter Tryz.func24,Tryz.ntmps24
 go_upto_region 1 with (fail)
 refine jg λW hb0 B1 d=>?_;refine aN trivial (none) (0) (fM.none) [.eq (.int .i64 n),.int dM (n),.int dM (1),.rat dM (n:Rat)] [3,4,5,6] rfl rfl rfl rfl ⟨λ_ _ a _ _ _=>xM rfl (a 0 rfl),λA _ _ _ hS he=>have hb:=hS rfl;have h3:=eT 3 (he.1 rfl);have hf0:=eF A 70;cP (f:=70) (args:=#[.int .i64 n]) (BH n _ h1 h2),λA _ _ _ hS _=>have hb:=hS rfl;have hf0:=eF A 70;have hc0:=eC A (.int .i64 1);cP (f:=70) (args:=#[(.int .i64 1)]) (BH 1 _ oM oM),?_,trivial⟩ ?_
 ·intro A w1 hA hL hS he;obtain⟨v4,h4,f4⟩:=fT 4 (he.1 rfl);obtain⟨v5,h5,f5⟩:=fT 5 (he.2.1 rfl);refine ae rfl ?_;obtain⟨x4,y4,rfl,i4⟩:=f4;obtain⟨x5,y5,rfl,i5⟩:=f5;obtain⟨a4,k4,q4,rfl,-,-⟩:=i4.shape;obtain⟨a5,k5,q5,rfl,-,-⟩:=i5.shape;refine kQ (c:=.agg #[.bool x4,.slice a4 k4 q4,.bool x5,.slice a5 k5 q5]) rfl rfl (Below.refl _ _) ⟨_,_,_,_,_,_,_,_,rfl,by rw[Rat.num_intCast];exact i4,by rw[Rat.den_intCast];exact i5⟩ ?_;exact gZ
 ·intro w1 hL;have hb1:=hL.below;simp only[aU,af.eq,af.int,af.rat,af.of,lZ];rintro _ - _ - v6 h6;obtain⟨t1,b1,g1,d1,t2,b2,g2,d2,rfl,j1,j2⟩:=h6;go_frame;have C1:=B1.on hb1
  go_wp2_with (refine az rfl _ (.tmp 2) (.tmp 6) rfl _ _ _ _ rfl rfl C1 rfl dD dH ?_;intro w3 R b)
  exact dS rfl rfl rfl R Tryz.underlying41 rfl dD (pE hb0 hb1 oM C1 ⟨_,_,_,_,_,_,_,_,rfl,j1,j2⟩ b)
theorem JM(v1 v2:Value)(p q:Rat)(w:World)(h1:bO w v1 p)(h2:bO w v2 q)(k1:Rs p)(k2:Rs q) :
  Calls Tryz.prog 81 #[v1,v2] w (qo w (p+q)):=by
 rw[<-CL];obtain⟨s1,a1,l1,c1,s2,a2,l2,c2,rfl,i1,i2⟩:=h1;obtain⟨s3,a3,l3,c3,s4,a4,l4,c4,rfl,i3,i4⟩:=h2;obtain⟨k,dz⟩:=VK k1 k2;have j:=RG k1 k2;have d:=RG k2 k1;have sb:aF (p.num*(q.den:Int)+q.num*(p.den:Int)).natAbs<=CT:=by have:=Jm j d;have q1:=NH;have q2:=mX;omega
 have cb1:aF (p.num*(q.den:Int)).natAbs<=CS:=by have q1:=ou;have q2:=NH;omega
 have cb2:aF (q.num*(p.den:Int)).natAbs<=CS:=by have q1:=ou;have q2:=NH;omega
 go_enter Tryz.func81,Tryz.ntmps81
 go_upto_region 1 with (fail)
 refine sU λW hb0 B1 B2 B3 r=>?_;replace i1:=i1.on hb0;replace i2:=i2.on hb0;replace i3:=i3.on hb0;replace i4:=i4.on hb0;refine aC mixed (none) (0) (fM.none) [.eq (.pointer (some ⟨w.heap.size,0,none⟩)),.eq (.agg #[.bool s1,.slice a1 l1 c1]),.eq (.pointer (some ⟨w.heap.size+1,2,none⟩)),.eq (.agg #[.bool s4,.slice a4 l4 c4]),.int dM ((p.num*(q.den:Int))),.eq (.pointer (some ⟨w.heap.size+1,0,none⟩)),.eq (.agg #[.bool s3,.slice a3 l3 c3]),.eq (.pointer (some ⟨w.heap.size,2,none⟩)),.eq (.agg #[.bool s2,.slice a2 l2 c2]),.int dM ((q.num*(p.den:Int))),.int dM ((p.num*(q.den:Int)+q.num*(p.den:Int))),.box 39 W.heap.size [.bool false,.slice none 0 0]] [6,7,8,9,10,11,12,13,14,15,16,5] rfl rfl rfl rfl ⟨λA _ hA _ _ _=>have h2:A.eval (.tmp 2)=.pointer (some ⟨w.heap.size,0,none⟩):=hA 2 rfl;pZ rfl,λA _ _ hL _ he=>have hb:=hL.below;have h6:=eT 6 (he.1 rfl);have c0:=((B1).on hb).at1 0 _ rfl;have c1:=((B1).on hb).at1 1 _ rfl;pZ rfl,λA _ hA _ _ _=>have h3:A.eval (.tmp 3)=.pointer (some ⟨w.heap.size+1,0,none⟩):=hA 3 rfl;pZ rfl,λA _ _ hL _ he=>have hb:=hL.below;have h8:=eT 8 (he.1 rfl);have c0:=((B2).on hb).at1 2 _ rfl;have c1:=((B2).on hb).at1 3 _ rfl;pZ rfl,λA _ _ _ hS he=>have hb:=hS rfl;have h7:=eT 7 (he.1 rfl);have h9:=eT 9 (he.2.1 rfl);have hf0:=eF A 105;cP (f:=105) (args:=#[.agg #[.bool s1,.slice a1 l1 c1],.agg #[.bool s4,.slice a4 l4 c4]]) (mq _ _ _ _ _ _ _ (i1.on hb) (i4.on hb) (La k1.num) (La k2.den)),λA _ hA _ _ _=>have h3:A.eval (.tmp 3)=.pointer (some ⟨w.heap.size+1,0,none⟩):=hA 3 rfl;pZ rfl,λA _ _ hL _ he=>have hb:=hL.below;have h11:=eT 11 (he.1 rfl);have c0:=((B2).on hb).at1 0 _ rfl;have c1:=((B2).on hb).at1 1 _ rfl;pZ rfl,λA _ hA _ _ _=>have h2:A.eval (.tmp 2)=.pointer (some ⟨w.heap.size,0,none⟩):=hA 2 rfl;pZ rfl,λA _ _ hL _ he=>have hb:=hL.below;have h13:=eT 13 (he.1 rfl);have c0:=((B1).on hb).at1 2 _ rfl;have c1:=((B1).on hb).at1 3 _ rfl;pZ rfl,λA _ _ _ hS he=>have hb:=hS rfl;have h12:=eT 12 (he.1 rfl);have h14:=eT 14 (he.2.1 rfl);have hf0:=eF A 105;cP (f:=105) (args:=#[.agg #[.bool s3,.slice a3 l3 c3],.agg #[.bool s2,.slice a2 l2 c2]]) (mq _ _ _ _ _ _ _ (i3.on hb) (i2.on hb) (La k2.num) (La k1.den)),?_,?_,trivial⟩ ?_
 ·intro A w1 hA hL hS he;have hb:=hS rfl;obtain⟨v10,h10,f10⟩:=fT 10 (he.1 rfl);obtain⟨v15,h15,f15⟩:=fT 15 (he.2.1 rfl);have hf0:=eF A 108;refine ae rfl ?_;refine dV (f:=108) (args:=#[v10,v15]) rfl rfl ?_ ?_
  ·exact gZ
  ·obtain⟨n10,m10,rfl,i10⟩:=f10;obtain⟨n15,m15,rfl,i15⟩:=f15;refine(yo _ _ _ _ _ _ _ i10 i15 cb1 cb2).mono ?_;rintro e w' ⟨neg,m,rfl,i,b⟩;exact⟨_,rfl,b,neg,m,rfl,i⟩
 ·intro A w1 hA hL hS he;refine ae rfl ?_;refine nN rfl rfl ((fM.none).lr hL) hL.1.size (by generalize A.eval=ev at *;go_simp) (λ_ _ h=>h)
 ·intro W2 hL2;have hb2:=hL2.below;simp only[aU,af.eq,af.int,af.box,af.of,lZ];rintro _ - _ - _ ⟨n16,m16,rfl,i16⟩ v5 ⟨x,-,n,rfl,B5⟩;obtain⟨a5,k5,q5,rfl,-,-⟩:=i16.shape;go_frame;have C1:=B1.on hb2;have C2:=B2.on hb2;have C3:=B3.on hb2;have o:=B3.lt
  go_upto_region 2 with (refine az rfl _ (.tmp 5) (.tmp 16) rfl _ _ _ _ rfl rfl B5 rfl aO i16.ones ?_;intro w3 R3 gr3)
  have D1:=C1.grown gr3 oM;have D2:=C2.grown gr3 oM;have D3:=C3.grown gr3 oM;have j16:=i16.stored gr3 B5 dM;have j2:=(i2.on hb2).stored gr3 B5 dM;have j4:=(i4.on hb2).stored gr3 B5 dM;have hb3:Below W.heap.size W w3:=hb2.trans ((aH gr3 (Nat.le_of_lt B5.lt) (nL _)).mono oM);clear C1 C2 C3 B5 gr3 i16 hb2 hL2;refine aC mixed (none) (0) (fM.none) [.eq (.agg #[.bool n16,.slice a5 k5 q5]),.eq (.pointer (some ⟨w.heap.size,2,none⟩)),.eq (.agg #[.bool s2,.slice a2 l2 c2]),.eq (.pointer (some ⟨w.heap.size+1,2,none⟩)),.eq (.agg #[.bool s4,.slice a4 l4 c4]),.int dM (((p.den:Int)*(q.den:Int))),.rat dM ((Rat.divInt (p.num*(q.den:Int)+q.num*(p.den:Int)) ((p.den:Int)*(q.den:Int))))] [17,18,19,20,21,22,23] rfl rfl rfl rfl ⟨λA _ hA hL _ _=>have hb:=hL.below;have h5:A.eval (.tmp 5)=.pointer (some ⟨x,0,none⟩):=hA 5 rfl;have c0:=((R3).on hb).at1 0 _ rfl;have c1:=((R3).on hb).at1 1 _ rfl;pZ rfl,λA _ hA _ _ _=>have h2:A.eval (.tmp 2)=.pointer (some ⟨w.heap.size,0,none⟩):=hA 2 rfl;pZ rfl,λA _ _ hL _ he=>have hb:=hL.below;have h18:=eT 18 (he.1 rfl);have c0:=((D1).on hb).at1 2 _ rfl;have c1:=((D1).on hb).at1 3 _ rfl;pZ rfl,λA _ hA _ _ _=>have h3:A.eval (.tmp 3)=.pointer (some ⟨w.heap.size+1,0,none⟩):=hA 3 rfl;pZ rfl,λA _ _ hL _ he=>have hb:=hL.below;have h20:=eT 20 (he.1 rfl);have c0:=((D2).on hb).at1 2 _ rfl;have c1:=((D2).on hb).at1 3 _ rfl;pZ rfl,λA _ _ _ hS he=>have hb:=hS rfl;have h19:=eT 19 (he.1 rfl);have h21:=eT 21 (he.2.1 rfl);have hf0:=eF A 105;cP (f:=105) (args:=#[.agg #[.bool s2,.slice a2 l2 c2],.agg #[.bool s4,.slice a4 l4 c4]]) (mq _ _ _ _ _ _ _ (j2.on hb) (j4.on hb) (La k1.den) (La k2.den)),?_,trivial⟩ ?_
  ·intro A w1 hA hL hS he;have hb:=hS rfl;have h17:=eT 17 (he.1 rfl);obtain⟨v22,h22,f22⟩:=fT 22 (he.2.1 rfl);have hf0:=eF A 107;refine ae rfl ?_;refine dV (f:=107) (args:=#[.agg #[.bool n16,.slice a5 k5 q5],v22]) rfl rfl ?_ ?_
   ·exact gZ
   ·obtain⟨n22,m22,rfl,i22⟩:=f22;refine(NT _ _ _ _ _ _ _ (j16.on hb) i22 sb k dz).mono ?_;rintro e w' ⟨v,rfl,i,b⟩;exact⟨_,rfl,b,i⟩
  ·intro w4 hL4;have hb4:=hL4.below;simp only[aU,af.eq,af.int,af.rat,af.of,lZ];rintro _ - v23 h23;obtain⟨t1,b1,g1,d1,t2,b2,g2,d2,rfl,u1,u2⟩:=h23;go_frame;have E3:=D3.on hb4
   go_wp2_with (refine az rfl _ (.tmp 4) (.tmp 23) rfl _ _ _ _ rfl rfl E3 rfl dD dH ?_;intro w5 R l)
   exact dS rfl rfl rfl R Tryz.underlying41 rfl dD (pE hb0 (hb3.trans (hb4.mono hb3.size)) oM E3 ⟨_,_,_,_,_,_,_,_,rfl,u1,u2⟩ l)
theorem JN(v1 v2:Value)(p q:Rat)(w:World)(h1:bO w v1 p)(h2:bO w v2 q)(k1:Rs p)(k2:Rs q) :
  Calls Tryz.prog 75 #[v1,v2] w (qo w (p*q)):=by
 rw[<-CO];obtain⟨s1,a1,l1,c1,s2,a2,l2,c2,rfl,i1,i2⟩:=h1;obtain⟨s3,a3,l3,c3,s4,a4,l4,c4,rfl,i3,i4⟩:=h2;obtain⟨d,dz⟩:=VK k1 k2;have sb:aF (p.num*q.num).natAbs<=CT:=by have:=gL p.num.natAbs q.num.natAbs;have:=k1.2;have:=k2.2;rw[Int.natAbs_mul];have q1:=ou;have q2:=mX;omega
 go_enter Tryz.func75,Tryz.ntmps75
 go_upto_region 1 with (fail)
 refine sU λW hb0 B1 B2 B3 k=>?_;replace i1:=i1.on hb0;replace i2:=i2.on hb0;replace i3:=i3.on hb0;replace i4:=i4.on hb0;refine aC mixed (none) (0) (fM.none) [.eq (.pointer (some ⟨w.heap.size,0,none⟩)),.eq (.agg #[.bool s1,.slice a1 l1 c1]),.eq (.pointer (some ⟨w.heap.size+1,0,none⟩)),.eq (.agg #[.bool s3,.slice a3 l3 c3]),.int dM ((p.num*q.num)),.eq (.pointer (some ⟨w.heap.size,2,none⟩)),.eq (.agg #[.bool s2,.slice a2 l2 c2]),.eq (.pointer (some ⟨w.heap.size+1,2,none⟩)),.eq (.agg #[.bool s4,.slice a4 l4 c4]),.int dM (((p.den:Int)*(q.den:Int))),.rat dM ((Rat.divInt (p.num*q.num) ((p.den:Int)*(q.den:Int))))] [5,6,7,8,9,10,11,12,13,14,15] rfl rfl rfl rfl ⟨λA _ hA _ _ _=>have h2:A.eval (.tmp 2)=.pointer (some ⟨w.heap.size,0,none⟩):=hA 2 rfl;pZ rfl,λA _ _ hL _ he=>have hb:=hL.below;have h5:=eT 5 (he.1 rfl);have c0:=((B1).on hb).at1 0 _ rfl;have c1:=((B1).on hb).at1 1 _ rfl;pZ rfl,λA _ hA _ _ _=>have h3:A.eval (.tmp 3)=.pointer (some ⟨w.heap.size+1,0,none⟩):=hA 3 rfl;pZ rfl,λA _ _ hL _ he=>have hb:=hL.below;have h7:=eT 7 (he.1 rfl);have c0:=((B2).on hb).at1 0 _ rfl;have c1:=((B2).on hb).at1 1 _ rfl;pZ rfl,λA _ _ _ hS he=>have hb:=hS rfl;have h6:=eT 6 (he.1 rfl);have h8:=eT 8 (he.2.1 rfl);have hf0:=eF A 105;cP (f:=105) (args:=#[.agg #[.bool s1,.slice a1 l1 c1],.agg #[.bool s3,.slice a3 l3 c3]]) (mq _ _ _ _ _ _ _ (i1.on hb) (i3.on hb) (La k1.num) (La k2.num)),λA _ hA _ _ _=>have h2:A.eval (.tmp 2)=.pointer (some ⟨w.heap.size,0,none⟩):=hA 2 rfl;pZ rfl,λA _ _ hL _ he=>have hb:=hL.below;have h10:=eT 10 (he.1 rfl);have c0:=((B1).on hb).at1 2 _ rfl;have c1:=((B1).on hb).at1 3 _ rfl;pZ rfl,λA _ hA _ _ _=>have h3:A.eval (.tmp 3)=.pointer (some ⟨w.heap.size+1,0,none⟩):=hA 3 rfl;pZ rfl,λA _ _ hL _ he=>have hb:=hL.below;have h12:=eT 12 (he.1 rfl);have c0:=((B2).on hb).at1 2 _ rfl;have c1:=((B2).on hb).at1 3 _ rfl;pZ rfl,λA _ _ _ hS he=>have hb:=hS rfl;have h11:=eT 11 (he.1 rfl);have h13:=eT 13 (he.2.1 rfl);have hf0:=eF A 105;cP (f:=105) (args:=#[.agg #[.bool s2,.slice a2 l2 c2],.agg #[.bool s4,.slice a4 l4 c4]]) (mq _ _ _ _ _ _ _ (i2.on hb) (i4.on hb) (La k1.den) (La k2.den)),?_,trivial⟩ ?_
 ·intro A w1 hA hL hS he;have hb:=hS rfl;obtain⟨v9,h9,f9⟩:=fT 9 (he.1 rfl);obtain⟨v14,h14,f14⟩:=fT 14 (he.2.1 rfl);have hf0:=eF A 107;refine ae rfl ?_;refine dV (f:=107) (args:=#[v9,v14]) rfl rfl ?_ ?_
  ·exact gZ
  ·obtain⟨n9,m9,rfl,i9⟩:=f9;obtain⟨n14,m14,rfl,i14⟩:=f14;refine(NT _ _ _ _ _ _ _ i9 i14 sb d dz).mono ?_;rintro e w' ⟨v,rfl,j,b⟩;exact⟨_,rfl,b,j⟩
 ·intro w4 hL4;have hb4:=hL4.below;simp only[aU,af.eq,af.int,af.rat,af.of,lZ];rintro _ - _ - v23 h23;obtain⟨t1,b1,g1,d1,t2,b2,g2,d2,rfl,u1,u2⟩:=h23;go_frame;have E3:=B3.on hb4
  go_wp2_with (refine az rfl _ (.tmp 4) (.tmp 15) rfl _ _ _ _ rfl rfl E3 rfl dD dH ?_;intro w5 R i)
  exact dS rfl rfl rfl R Tryz.underlying41 rfl dD (pE hb0 hb4 oM E3 ⟨_,_,_,_,_,_,_,_,rfl,u1,u2⟩ i)
theorem RJ{p q:Rat}:decide (p=q)=(decide (p.num=q.num)&&decide ((p.den:Int)=(q.den:Int))):=by
 rw[Bool.eq_iff_iff];simp only[decide_eq_true_eq,Bool.and_eq_true];constructor
 ·rintro rfl;exact⟨rfl,rfl⟩
 ·rintro⟨b,d⟩;exact Rat.ext b oM
theorem FQ(v1 v2:Value)(p q:Rat)(w:World)(h1:bO w v1 p)(h2:bO w v2 q)(k1:Rk p)(k2:Rk q) :
  Calls Tryz.prog 23 #[v1,v2] w (pX w (.bool (decide (p=q)))):=by
 obtain⟨s1,a1,l1,c1,s2,a2,l2,c2,rfl,i1,i2⟩:=h1;obtain⟨s3,a3,l3,c3,s4,a4,l4,c4,rfl,i3,i4⟩:=h2;have he:=RJ (p:=p) (q:=q);have b:=λW (hb:Below w.heap.size w W)=>FN _ _ _ _ _ _ W (i1.on hb) (i3.on hb) k1.num' k2.num';have d:=λW (hb:Below w.heap.size w W)=>FN _ _ _ _ _ _ W (i2.on hb) (i4.on hb) k1.den' k2.den';generalize decide ((p.den:Int)=(q.den:Int))=dd at *;generalize decide (p.num=q.num)=dn at *;replace he:=zH he
 go_enter Tryz.func23,Tryz.ntmps23
 go_upto_region 1 with (fail)
 refine xS λW hb0 B1 B2 i=>?_;cases dn
 ·skip
  refine aN trivial (none) (0) (fM.none) [.eq (.pointer (some ⟨w.heap.size,0,none⟩)),.eq (.agg #[.bool s1,.slice a1 l1 c1]),.eq (.pointer (some ⟨w.heap.size+1,0,none⟩)),.eq (.agg #[.bool s3,.slice a3 l3 c3]),.ret (.bool false),.eq (.bool false),.eq undef,.eq undef,.eq undef,.eq undef,.eq undef,.eq (.bool false)] [5,6,7,8,9,10,11,12,13,14,15,16] rfl rfl rfl rfl ⟨λA _ hA _ _ _=>have h2:A.eval (.tmp 2)=.pointer (some ⟨w.heap.size,0,none⟩):=hA 2 rfl;pZ rfl,λA _ _ hL _ he=>have hb:=hL.below;have h5:=eT 5 (he.1 rfl);have c0:=((B1).on hb).at1 0 _ rfl;have c1:=((B1).on hb).at1 1 _ rfl;pZ rfl,λA _ hA _ _ _=>have h3:A.eval (.tmp 3)=.pointer (some ⟨w.heap.size+1,0,none⟩):=hA 3 rfl;pZ rfl,λA _ _ hL _ he=>have hb:=hL.below;have h7:=eT 7 (he.1 rfl);have c0:=((B2).on hb).at1 0 _ rfl;have c1:=((B2).on hb).at1 1 _ rfl;pZ rfl,λA _ _ _ hS he=>have hb:=hS rfl;have h6:=eT 6 (he.1 rfl);have h8:=eT 8 (he.2.1 rfl);have hf0:=eF A 69;cP (f:=69) (args:=#[.agg #[.bool s1,.slice a1 l1 c1],.agg #[.bool s3,.slice a3 l3 c3]]) (b _ (hb0.trans (hb.mono hb0.size))),λ_ _ _ _ _ e=>xM rfl (e.1 rfl),λ_ _ _ _ _ e=>nO false (e.1 rfl),λ_ _ _ _ _ e=>nO false (e.2.1 rfl),λ_ _ _ _ _ e=>nO false (e.1 rfl),λ_ _ _ _ _ e=>nO false (e.2.1 rfl),λ_ _ _ _ _ e=>nO false (e.2.2.1 rfl),λ_ _ _ _ _ e=>ae rfl (iD rfl (e.1 rfl) rfl rfl),trivial⟩ ?_
  ·intro W2 hL2;simp only[aU,af.eq,af.ret,lZ];go_frame;go_wp2;go_ret;exact⟨by rw[he.out]<;>rfl,hb0.trans (hL2.below.mono hb0.size)⟩
 ·skip
  refine aN trivial (none) (0) (fM.none) [.eq (.pointer (some ⟨w.heap.size,0,none⟩)),.eq (.agg #[.bool s1,.slice a1 l1 c1]),.eq (.pointer (some ⟨w.heap.size+1,0,none⟩)),.eq (.agg #[.bool s3,.slice a3 l3 c3]),.ret (.bool true),.eq (.bool true),.eq (.pointer (some ⟨w.heap.size,2,none⟩)),.eq (.agg #[.bool s2,.slice a2 l2 c2]),.eq (.pointer (some ⟨w.heap.size+1,2,none⟩)),.eq (.agg #[.bool s4,.slice a4 l4 c4]),.ret (.bool dd),.eq (.bool dd)] [5,6,7,8,9,10,11,12,13,14,15,16] rfl rfl rfl rfl ⟨λA _ hA _ _ _=>have h2:A.eval (.tmp 2)=.pointer (some ⟨w.heap.size,0,none⟩):=hA 2 rfl;pZ rfl,λA _ _ hL _ he=>have hb:=hL.below;have h5:=eT 5 (he.1 rfl);have c0:=((B1).on hb).at1 0 _ rfl;have c1:=((B1).on hb).at1 1 _ rfl;pZ rfl,λA _ hA _ _ _=>have h3:A.eval (.tmp 3)=.pointer (some ⟨w.heap.size+1,0,none⟩):=hA 3 rfl;pZ rfl,λA _ _ hL _ he=>have hb:=hL.below;have h7:=eT 7 (he.1 rfl);have c0:=((B2).on hb).at1 0 _ rfl;have c1:=((B2).on hb).at1 1 _ rfl;pZ rfl,λA _ _ _ hS he=>have hb:=hS rfl;have h6:=eT 6 (he.1 rfl);have h8:=eT 8 (he.2.1 rfl);have hf0:=eF A 69;cP (f:=69) (args:=#[.agg #[.bool s1,.slice a1 l1 c1],.agg #[.bool s3,.slice a3 l3 c3]]) (b _ (hb0.trans (hb.mono hb0.size))),λ_ _ _ _ _ e=>xM rfl (e.1 rfl),λA _ hA _ _ he=>have h10:=eT 10 (he.1 rfl);have h2:A.eval (.tmp 2)=.pointer (some ⟨w.heap.size,0,none⟩):=hA 2 rfl;yZ h10 rfl,λA _ _ hL _ he=>have hb:=hL.below;have h10:=eT 10 (he.2.1 rfl);have h11:=eT 11 (he.1 rfl);have c0:=((B1).on hb).at1 2 _ rfl;have c1:=((B1).on hb).at1 3 _ rfl;yZ h10 rfl,λA _ hA _ _ he=>have h10:=eT 10 (he.1 rfl);have h3:A.eval (.tmp 3)=.pointer (some ⟨w.heap.size+1,0,none⟩):=hA 3 rfl;yZ h10 rfl,λA _ _ hL _ he=>have hb:=hL.below;have h10:=eT 10 (he.2.1 rfl);have h13:=eT 13 (he.1 rfl);have c0:=((B2).on hb).at1 2 _ rfl;have c1:=((B2).on hb).at1 3 _ rfl;yZ h10 rfl,λA _ _ _ hS he=>have hb:=hS rfl;have h10:=eT 10 (he.2.2.1 rfl);have h12:=eT 12 (he.1 rfl);have h14:=eT 14 (he.2.1 rfl);have hf0:=eF A 69;cY (f:=69) (args:=#[.agg #[.bool s2,.slice a2 l2 c2],.agg #[.bool s4,.slice a4 l4 c4]]) h10 (d _ (hb0.trans (hb.mono hb0.size))),λ_ _ _ _ _ e=>pK rfl (e.1 rfl) (e.2.1 rfl),trivial⟩ ?_
  ·intro W2 hL2;simp only[aU,af.eq,af.ret,lZ];go_frame;go_wp2;go_ret;exact⟨by rw[he.out]<;>rfl,hb0.trans (hL2.below.mono hb0.size)⟩
theorem Ex.gt_at{e f:Ex}{i:Nat}(p:i<4)(h:∀j,i<j->j<4->e.get j=f.get j)(k:e.get i≠f.get i):e.gt f=decide (f.get i<e.get i):=by
 obtain⟨a,b,c,d⟩:=e;obtain⟨a',l,c',d'⟩:=f;have m:=h 1;have n:=h 2;have o:=h 3;rw[Bool.eq_iff_iff,Ex.gt_iff,decide_eq_true_iff];obtain rfl|rfl|rfl|rfl:i=0\/i=1\/i=2\/i=3:=oM
 all_goals simp[Ex.get]at *
 all_goals omega
theorem Ex.eq_get{e f:Ex}(h:∀j,j<4->e.get j=f.get j):e=f :=
 Ex.ext' (h 0 oM) (h 1 oM) (h 2 oM) (h 3 oM)
theorem uZ(e f:Ex)(w:World):Calls Tryz.prog 68 #[.agg (bD e).toArray,.agg (bD f).toArray] w (pX w (.bool (e.gt f))):=by
 have hg0:=λi G h s=>Ex.gt_at (e:=e) (f:=f) (i:=i) G h s;have hg1:(∀j,j<4->e.get j=f.get j)->e.gt f=false:=λh=>by rw[Ex.eq_get h];exact Ex.gt_irrefl _
 have hc1:=λk q=>BJ e k q;have hc2:=λk q=>BJ f k q;generalize e.gt f=R at *;obtain⟨x1,x2,x3,x4⟩:=e;obtain⟨y1,y2,y3,y4⟩:=f;simp only[bD]at hc1 hc2 ⊢;replace hg0:=zH hg0;replace hg1:=zH hg1
 go_enter Tryz.func68,Tryz.ntmps68
 go_upto_region 1 with (fail)
 refine xS λW hb0 B1 B2 J=>?_;go_wp2
 go_loopw [5] (λi wr=>∃k:Nat,k<=4/\i=.int .i64 ((k:Int)-1)/\Hid (∀j,k<=j->j<4->Ex.get (x1,x2,x3,x4) j=Ex.get (y1,y2,y3,y4) j)/\Below W.heap.size W wr) (λi _=>(intOf i+1).toNat)
 case atStart=>exact⟨4,oM,rfl,zH (λj h1 h2=>oM),Below.refl _ _⟩
 case round =>
  obtain⟨k,q,rfl,hd,b⟩:=hrel;by_cases h0:1<=k
  ·obtain⟨i,rfl⟩:∃i,k=i+1:=⟨k - 1,oM⟩;have hi4:i<4:=oM;have D:(i:Int)<4:=oM;have u:=hc1 i hi4;have z:=hc2 i hi4;have n:=hg0.out i hi4 (λj h1 h2=>hd.out j h1 h2)
   have m:Ex.get (x1,x2,x3,x4) i=Ex.get (y1,y2,y3,y4) i->∀j,i<=j->j<4->Ex.get (x1,x2,x3,x4) j=Ex.get (y1,y2,y3,y4) j:=λh j h1 h2=>by
    rcases Nat.eq_or_lt_of_le h1 with h'|h'
    ·rw[<-h'];exact h
    ·exact hd.out j h' h2
   replace m:=zH m;have B:Hid (∃x,x=Ex.get (x1,x2,x3,x4) i):=⟨_,rfl⟩;obtain⟨x,ex⟩:=B.out;have C:Hid (∃y,y=Ex.get (y1,y2,y3,y4) i):=⟨_,rfl⟩;obtain⟨y,p⟩:=C.out;rw[<-ex]at u n;rw[<-p]at z n;replace ex:=zH ex;replace p:=zH p;clear hd B C;have hi1:(((i+1:Nat):Int) - 1)=(i:Int):=oM;rw[hi1];have f1:∀l,Below W.heap.size W l->l.cell? ⟨w.heap.size,i,none⟩=some (.int .i64 x):=λl hb=>(B1.on hb).at1 i _ u;have f2:∀l,Below W.heap.size W l->l.cell? ⟨w.heap.size+1,i,none⟩=some (.int .i64 y):=λl hb=>(B2.on hb).at1 i _ z;clear u z
   go_upto_region 4 with (fail)
   refine aC mixed (none) (0) (fM.none) [.eq (.int .i64 i),.eq (.pointer (some ⟨w.heap.size,i,none⟩)),.eq (.int .i64 x),.eq (.int .i64 i),.eq (.pointer (some ⟨w.heap.size+1,i,none⟩)),.eq (.int .i64 y),.eq (.bool (x != y))] [10,11,12,13,14,15,16] rfl rfl rfl rfl ⟨λ_ _ a _ _ _=>xM rfl (a 5 rfl),λA _ hA _ _ he=>have h2:A.eval (.tmp 2)=.pointer (some ⟨w.heap.size,0,none⟩):=hA 2 rfl;have h10:=eT 10 (he.1 rfl);pZ rfl,?_,λ_ _ a _ _ _=>xM rfl (a 5 rfl),λA _ hA _ _ he=>have h3:A.eval (.tmp 3)=.pointer (some ⟨w.heap.size+1,0,none⟩):=hA 3 rfl;have h13:=eT 13 (he.1 rfl);pZ rfl,?_,λA _ _ _ _ he=>have h12:=eT 12 (he.1 rfl);have h15:=eT 15 (he.2.1 rfl);pZ rfl,trivial⟩ ?_
   ·intro A w1 hA hL hS he;have h11:=eT 11 (he.1 rfl);refine ae rfl ?_;have c0:=f1 w1 (b.trans (hL.below.mono b.size));exact aA rfl rfl gZ
   ·intro A w1 hA hL hS he;have h14:=eT 14 (he.1 rfl);refine ae rfl ?_;have c0:=f2 w1 (b.trans (hL.below.mono b.size));exact aA rfl rfl gZ
   ·intro W2 hL2;simp only[aU,af.eq,lZ];go_frame;have hb2:=b.trans (hL2.below.mono b.size);by_cases d:x=y
    ·have r:=zH (m.out (by rw[<-ex.out,<-p.out];exact d));have o:(x != y)=false:=by simp[d]
     rw[o];clear f1 f2;go_wp2;go_roundw
     case rel=>exact⟨i,oM,nM,r,hb2⟩
     case measure=>simp[intOf]
    ·have F:=zH (n d);have o:(x != y)=true:=by simp[d]
     rw[o]
     go_upto_region 5 with (fail)
     refine aC mixed (none) (0) (fM.none) [.eq (.int .i64 i),.eq (.pointer (some ⟨w.heap.size,i,none⟩)),.eq (.int .i64 x),.eq (.int .i64 i),.eq (.pointer (some ⟨w.heap.size+1,i,none⟩)),.eq (.int .i64 y),.eq (.bool (decide (y<x)))] [17,18,19,20,21,22,23] rfl rfl rfl rfl ⟨λ_ _ a _ _ _=>xM rfl (a 5 rfl),λA _ hA _ _ he=>have h2:A.eval (.tmp 2)=.pointer (some ⟨w.heap.size,0,none⟩):=hA 2 rfl;have h17:=eT 17 (he.1 rfl);pZ rfl,?_,λ_ _ a _ _ _=>xM rfl (a 5 rfl),λA _ hA _ _ he=>have h3:A.eval (.tmp 3)=.pointer (some ⟨w.heap.size+1,0,none⟩):=hA 3 rfl;have h20:=eT 20 (he.1 rfl);pZ rfl,?_,λA _ _ _ _ he=>have h19:=eT 19 (he.1 rfl);have h22:=eT 22 (he.2.1 rfl);pZ rfl,trivial⟩ ?_
     ·intro A w1 hA hL hS he;have h18:=eT 18 (he.1 rfl);refine ae rfl ?_;have c0:=f1 w1 (hb2.trans (hL.below.mono hb2.size));exact aA rfl rfl gZ
     ·intro A w1 hA hL hS he;have h21:=eT 21 (he.1 rfl);refine ae rfl ?_;have c0:=f2 w1 (hb2.trans (hL.below.mono hb2.size));exact aA rfl rfl gZ
     ·intro W3 hL3;simp only[aU,af.eq,lZ];go_frame;go_wp2;go_ret;exact⟨by rw[F.out]<;>rfl,hb0.trans ((hb2.trans (hL3.below.mono hb2.size)).mono hb0.size)⟩
  ·obtain rfl:k=0:=oM;have r:=zH (hg1.out (λj I=>hd.out j oM I));go_wp2;go_ret;exact⟨by rw[r.out]<;>rfl,hb0.trans (b.mono hb0.size)⟩
theorem yB(e:Ex)(w:World):Calls Tryz.prog 65 #[.agg (bD e).toArray] w (pX w (.bool e.nat)):=by
 obtain⟨x1,x2,x3,x4⟩:=e
 have hR:Ex.nat (x1,x2,x3,x4)=(decide (0<=x1)&&decide (0<=x2)&&decide (0<=x3)&&decide (0<=x4)):=by rw[Bool.eq_iff_iff,Ex.nat_iff];simp[Bool.and_eq_true,and_assoc]
 generalize Ex.nat (x1,x2,x3,x4)=R at *;replace hR:=zH hR;simp only[bD]
 go_enter Tryz.func65,Tryz.ntmps65
 go_upto_region 1 with (fail)
 refine jg λW hb0 B d=>?_;have e1:=B.at1 0 _ rfl;have e2:=B.at1 1 _ rfl;have e3:=B.at1 2 _ rfl;have e4:=B.at1 3 _ rfl;by_cases h1:0<=x1
 ·by_cases h2:0<=x2
  ·by_cases h3:0<=x3
   ·by_cases h4:0<=x4
    ·have b:Hid (R=true):=zH (by rw[hR.out];simp[h1,h2,h3,h4]);go_wp2;go_ret;exact⟨by rw[b.out]<;>rfl,hb0⟩
    ·have b:Hid (R=false):=zH (by rw[hR.out];simp[h4]);go_wp2;go_ret;exact⟨by rw[b.out]<;>rfl,hb0⟩
   ·have b:Hid (R=false):=zH (by rw[hR.out];simp[h3]);go_wp2;go_ret;exact⟨by rw[b.out]<;>rfl,hb0⟩
  ·have b:Hid (R=false):=zH (by rw[hR.out];simp[h2]);go_wp2;go_ret;exact⟨by rw[b.out]<;>rfl,hb0⟩
 ·have b:Hid (R=false):=zH (by rw[hR.out];simp[h1]);go_wp2;go_ret;exact⟨by rw[b.out]<;>rfl,hb0⟩
end Go.Proofs.YtopclbeomcggiaaGreat
end
section
namespace Q
def JO (n:aj) (r:List aj):List aj:=if n.2≠0/\n.1.nat=true then n::r else r
theorem JP{m:aj}:∀{k:Nat}{p:List aj},(∀t∈p.take k,t.1.gt m.1=true)->ins p m=p.take k++ins (p.drop k) m
 | 0,p,_=>by simp
 | k+1,[],_=>by simp
 | k+1,t::p,h=>by have b:=h t sM;have d:=JP (m:=m) (k:=k) (p:=p) (λs e=>h s (by simp[e]));rw[List.take_succ_cons,List.drop_succ_cons,ins,if_pos b,d];rfl
theorem RL(m:aj):ins [] m=JO m []:=rfl
theorem UG{t m:aj}{r:List aj}(h:t.1=m.1):ins (t::r) m=JO (m.1,m.2+t.2) r:=by rw[ins,if_neg (by rw[h,Ex.gt_irrefl];simp),if_pos h];rfl
theorem UH{t m:aj}{r:List aj}(hg:t.1.gt m.1=false)(h:t.1≠m.1):ins (t::r) m=JO m (t::r):=by rw[ins,if_neg (by rw[hg];simp),if_neg h];rfl
end Q
namespace Go.Proofs.YtopclbeomcggiaaGreat
open Go.RowKit Q
theorem RN(e f:Ex)(w:World):(Op.equalIn 10000 36 (.agg (bD e).toArray) (.agg (bD f).toArray)).run Tryz.prog w=.ok (decide (e=f)) w:=by obtain⟨x1,x2,x3,x4⟩:=e;obtain⟨y1,y2,y3,y4⟩:=f;simp only[bD];have u3:=Tryz.underlying3;have a3:=Tryz.isAgg3;have z3:=Tryz.sizeOf3;rw[show(10000:Nat)=9999+1 from rfl,Op.equalIn];simp only[Sem.run_bind,run_underlying Tryz.underlying36,Result.andThen_ok];simp only[Std.Legacy.Range.forIn_eq_forIn_range',Std.Legacy.Range.size,Nat.sub_zero,Nat.add_sub_cancel,Nat.div_one,List.range'_succ,List.range'_zero,List.forIn_cons,List.forIn_nil];go_simp;by_cases h1:x1=y1<;>by_cases h2:x2=y2<;>by_cases h3:x3=y3<;>by_cases h4:x4=y4<;>simp[h1,h2,h3,h4]
theorem Df{w:World}{b:Nat}{e:Ex}{r:List Value}(h:Blk w b aJ (bD e++r)):w.rangeAt b 0 (bD e):=fU h.cells
theorem vX{w:World}{b:Nat}{e:Ex}{r:List Value}(h:Blk w b aJ (bD e++r)):w.rangeAt b (0+4) r:=iC h.cells
end Go.Proofs.YtopclbeomcggiaaGreat
namespace Q
open Go Go.RowKit Q Go.Proofs.YtopclbeomcggiaaGreat
theorem di.rebase{α:Type}{e:El α}{base:Nat}{w:World}{v:Value}{l:List α}(h:di e base w v l):di e 0 w v l:=by
 obtain⟨n,⟨i,d⟩,j⟩:=h;refine⟨n,⟨i,?_⟩,j⟩;rcases d with d|⟨g,cap,b,k,o,m⟩
 ·exact .inl d
 ·exact .inr ⟨g,cap,b,k,Nat.zero_le _,m⟩
end Q
namespace Go.Proofs.YtopclbeomcggiaaGreat
open Go.RowKit Q
theorem Dh(vp:Value)(p:List aj)(cs:List Value)(m:aj)(w:World)(hp:ai w vp p)(hm:qy w cs m)(a9:∀t∈p,Rs t.2)(av:Rs m.2)(bc:p.length<=100000000) :
  Calls Tryz.prog 82 #[vp,.agg cs.toArray] w (aP w (ins p m)):=by
 obtain⟨ap,cp,rfl,b2⟩:=hp.shape;obtain⟨r,rfl,hr⟩:=hm;obtain⟨e,q⟩:=m;simp only at hr av ⊢;replace a9:=zH a9;obtain⟨a4,u⟩:∃a4,a4=ins p (e,q):=⟨_,rfl⟩;rw[<-u];replace u:=zH u;have h4:=hr.len
 go_enter Tryz.func82,Tryz.ntmps82
 go_upto_region 1 with (fail)
 refine jg λW hb0 B b6=>?_;go_wp2
 go_loopw [5] (λi wr=>∃k:Nat,k<=p.length/\i=.int .i64 k/\Hid (∀t∈p.take k,t.1.gt e=true)/\Below w.heap.size w wr/\Hid (Blk wr w.heap.size aJ (bD e++r))) (λi _=>p.length-(intOf i).toNat)
 case atStart=>exact⟨0,oM,rfl,zH sM,hb0,zH B⟩
 case round =>
  clear hb0 B b6;obtain⟨k,I,rfl,X,b,hB⟩:=hrel;have D:=hB.out;obtain⟨g,n⟩:∃g:Bool,g=(match p[k]? with|some t=>t.1.gt e|none=>false):=⟨_,rfl⟩
  go_upto_region 2 with (fail)
  go_cut [8,9,10,11,12,13,14,15,16,17,18,19,20,21] (λ_ _ _ _ _ _ _ _ _ _ _ _ _ v21 wc=>v21=.bool g/\Below wr.heap.size wr wc)
  case first =>
   by_cases N:k<p.length
   ·have a8:p[k]?=some p[k]:=gE N;rw[a8]at n;generalize p[k]=t at a8 n;obtain⟨o,op,al,rfl,-,hE,hC⟩:=(hp.on b).get a8;obtain⟨rt,rfl,a1⟩:=hE;change bL aJ wr o (op+k*8) _ at hC;have b7:(k:Int)<p.length:=oM;simp only at n;refine aC mixed (none) (0) (fM.none) [.eq (.int .i64 k),.eq (.slice (some ⟨o,op,none⟩) p.length cp),.eq (.int .i64 p.length),.eq (.bool true),.eq (.bool true),.eq (.slice (some ⟨o,op,none⟩) p.length cp),.eq (.int .i64 k),.eq (.pointer (some ⟨o,op+k*8,none⟩)),.eq (.pointer (some ⟨o,op+k*8,none⟩)),.eq (.agg (bD t.1).toArray),.eq (.pointer (some ⟨w.heap.size,0,none⟩)),.eq (.agg (bD e).toArray),.ret (.bool (t.1.gt e)),.eq (.bool (t.1.gt e))] [8,9,10,11,12,13,14,15,16,17,18,19,20,21] rfl rfl rfl rfl ⟨λ_ _ a _ _ _=>xM rfl (a 5 rfl),λ_ _ a _ _ _=>xM rfl (a 0 rfl),λA _ _ _ _ he=>have h9:=eT 9 (he.1 rfl);pZ rfl,λA _ _ _ _ he=>have h8:=eT 8 (he.1 rfl);have h10:=eT 10 (he.2.1 rfl);pZ rfl,λ_ _ _ _ _ e=>xM rfl (e.1 rfl),λ_ _ a _ _ e=>yM (e.1 rfl) rfl (a 0 rfl),λ_ _ a _ _ e=>yM (e.1 rfl) rfl (a 5 rfl),λ_ _ _ _ _ e=>aI rfl rfl (e.2.2.1 rfl) (xI rfl Tryz.underlying27 o op k (N) (e.1 rfl) (e.2.1 rfl)),λ_ _ _ _ _ e=>aI rfl rfl (e.2.1 rfl) (xK rfl (e.1 rfl)),λ_ _ _ hL _ e=>aI rfl rfl (e.2.1 rfl) (xL rfl (fU (hC.on hL.below)) Tryz.underlying36 (show(bD t.1).length=4 from rfl) (e.1 rfl)),λ_ _ a _ _ e=>aI rfl rfl (e.1 rfl) (xK rfl (a 3 rfl)),λA w1 hA hL hS he=>aI rfl rfl (he.2.1 rfl) (xL rfl (Df (D.on hL.below)) Tryz.underlying36 (show(bD e).length=4 from rfl) (he.1 rfl)),λA _ _ _ hS he=>have hb:=hS rfl;have h12:=eT 12 (he.2.2.1 rfl);have h17:=eT 17 (he.1 rfl);have h19:=eT 19 (he.2.1 rfl);have hf0:=eF A 68;cY (f:=68) (args:=#[.agg (bD t.1).toArray,.agg (bD e).toArray]) h12 (uZ t.1 e _),λ_ _ _ _ _ e=>pK rfl (e.1 rfl) (e.2.1 rfl),trivial⟩ ?_
    ·intro W2 hL2;simp only[aU,af.eq,af.ret,lZ];go_frame;go_wp2;go_meet
     case rel=>exact⟨by rw[n],hL2.below⟩
   ·rw[gN oM]at n;obtain rfl:k=p.length:=oM;refine aC mixed (none) (0) (fM.none) [.eq (.int .i64 p.length),.eq (.slice ap p.length cp),.eq (.int .i64 p.length),.eq (.bool false),.eq (.bool false),.eq undef,.eq undef,.eq undef,.eq undef,.eq undef,.eq undef,.eq undef,.eq undef,.eq (.bool false)] [8,9,10,11,12,13,14,15,16,17,18,19,20,21] rfl rfl rfl rfl ⟨λ_ _ a _ _ _=>xM rfl (a 5 rfl),λ_ _ a _ _ _=>xM rfl (a 0 rfl),λA _ _ _ _ he=>have h9:=eT 9 (he.1 rfl);pZ rfl,λA _ _ _ _ he=>have h8:=eT 8 (he.1 rfl);have h10:=eT 10 (he.2.1 rfl);pZ rfl,λ_ _ _ _ _ e=>xM rfl (e.1 rfl),λ_ _ _ _ _ e=>nO false (e.1 rfl),λ_ _ _ _ _ e=>nO false (e.1 rfl),λ_ _ _ _ _ e=>nO false (e.2.2.1 rfl),λ_ _ _ _ _ e=>nO false (e.2.1 rfl),λ_ _ _ _ _ e=>nO false (e.2.1 rfl),λ_ _ _ _ _ e=>nO false (e.1 rfl),λ_ _ _ _ _ e=>nO false (e.2.1 rfl),λ_ _ _ _ _ e=>nO false (e.2.2.1 rfl),λ_ _ _ _ _ e=>ae rfl (iD rfl (e.1 rfl) rfl rfl),trivial⟩ ?_
    ·intro W2 hL2;simp only[aU,af.eq,af.ret,lZ];go_frame;go_wp2;go_meet
     case rel=>exact⟨by rw[n],hL2.below⟩
  case rest =>
   obtain⟨rfl,d⟩:=hcut;replace b:=b.trans (d.mono b.size);replace D:=D.on d;replace hr:=hr.on b;clear hB d
   have a0:g=true->k<p.length/\∀t∈p.take (k+1),t.1.gt e=true:=λh=>by
    rw[h]at n;split at n
    ·rename_i t ht;have N:=(gS.1 ht).1;refine⟨N,λs hs=>?_⟩;rw[List.take_add_one,ht]at hs;rcases List.mem_append.1 hs with hs|hs
     ·exact X.out s hs
     ·simp at hs;subst hs;exact n.symm
    ·cases n
   have M:g=false->∀t rest,p.drop k=t::rest->t.1.gt e=false:=λh t rest hd=>by have ht:=(nP hd).2.1;rw[h,ht]at n;exact n.symm
   replace a0:=zH a0;replace M:=zH M;clear n;cases g
   ·have y:=JP (m:=(e,q)) (k:=k) (p:=p) X.out;replace y:=zH y;clear X a0;have hP:=hp.on b;have an:=hP.take k I;have Z:=hp.drop k;change ai w (.slice (if cp=k then ap else ap.map (·.add (k*8))) _ _) _ at Z;have b0:=λW':World=>kR (P:=Tryz.prog) Tryz.underlying27 zJ W' ap p.length cp k .i64 (k:Int) rfl oM;have a3:=λW':World=>iA (P:=Tryz.prog) Tryz.underlying27 zJ W' ap p.length cp k .i64 (k:Int) rfl I b2;obtain⟨vr,ad⟩:∃vr:Value,vr=.slice (if cp=k then ap else ap.map (·.add (k*8))) (p.length - k) (cp - k):=⟨_,rfl⟩;rw[<-ad]at a3 Z;have L:Below wc.heap.size wc (wc.alloc (.cells #[] aJ)):=(Below.refl _ _).alloc (nL _) _;have aw:([]:List aj).length+(p.take k).length<=1000000000:=by simp;omega
    have a2:=an.on L;have bb:w.heap.size<wc.heap.size:=D.lt;replace ad:=zH ad
    go_upto_region 5 with (first
     | (at_builtin;refine dL rfl _ _ 27 rfl Tryz.underlying27 bG rfl rfl (fQ aL wc) a2 aw L.size ?_;intro v6 w6 hown6 hl6 hv6))
    rw[List.nil_append]at hown6;have hb6:Below wc.heap.size wc w6:=L.trans (hl6.belowAt L.size (λk I=>by cases I;exact nL _));have BB6:=D.on hb6;have hP6:=Z;replace hr:=hr.on hb6;replace b:=b.trans (hb6.mono b.size);clear hP an a2 Z hl6 hv6 L aw D b0
    go_upto_region 6 with (fail)
    clear a3;have aE:∀t∈p.drop k,Rs t.2:=λt ht=>a9.out t (List.mem_of_mem_drop ht);have au:(p.drop k).length<=p.length:=sM;generalize wc.heap.size=base at *;obtain⟨ar,cr,b5,aq⟩:=hP6.shape;subst b5;generalize p.drop k=P at *;obtain⟨g2,hg2⟩:∃g:Bool,g=(match P with|t::_=>decide (t.1=e)|[]=>false):=⟨_,rfl⟩
    go_cut [32,33,34,35,36,37,38,39,40,41,42,43] (λ_ _ _ _ _ _ _ _ _ _ _ v43 wc=>v43=.bool g2/\Below w6.heap.size w6 wc)
    case first =>
     cases P with
     | nil =>
      simp only[List.length_nil];refine aC mixed (none) (0) (fM.none) [.eq (.slice ar 0 cr),.eq (.int .i64 0),.eq (.bool false),.eq (.bool false),.eq undef,.eq undef,.eq undef,.eq undef,.eq undef,.eq undef,.eq undef,.eq (.bool false)] [32,33,34,35,36,37,38,39,40,41,42,43] rfl rfl rfl rfl ⟨λ_ _ a _ _ _=>xM rfl (a 7 rfl),λA _ _ _ _ he=>have h32:=eT 32 (he.1 rfl);pZ rfl,λA _ _ _ _ he=>have h33:=eT 33 (he.1 rfl);have hc0:=eC A (.int .i64 0);pZ rfl,λ_ _ _ _ _ e=>xM rfl (e.1 rfl),λ_ _ _ _ _ e=>nO false (e.1 rfl),λ_ _ _ _ _ e=>nO false (e.2.1 rfl),λ_ _ _ _ _ e=>nO false (e.2.1 rfl),λ_ _ _ _ _ e=>nO false (e.2.1 rfl),λ_ _ _ _ _ e=>nO false (e.1 rfl),λ_ _ _ _ _ e=>nO false (e.2.1 rfl),λ_ _ _ _ _ e=>nO false (e.2.2.1 rfl),λ_ _ _ _ _ e=>ae rfl (iD rfl (e.1 rfl) rfl rfl),trivial⟩ ?_
      ·intro W2 hL2;simp only[aU,af.eq,af.ret,lZ];go_frame;go_wp2;go_meet
       case rel=>exact⟨by rw[hg2],hL2.below⟩
     | cons t P2 =>
      obtain⟨o,op,al,rfl,-,hE,hC⟩:=hP6.get (j:=0) (t:=t) rfl;obtain⟨rt,rfl,a1⟩:=hE;change bL aJ w o (op+0*8) _ at hC;simp only[List.length_cons]at hg2 ⊢;have b9:=λW'=>RN t.1 e W';refine aC mixed (none) (0) (fM.none) [.eq (.slice (some ⟨o,op,none⟩) (P2.length+1) cr),.eq (.int .i64 (P2.length+1:Nat)),.eq (.bool true),.eq (.bool true),.eq (.slice (some ⟨o,op,none⟩) (P2.length+1) cr),.eq (.pointer (some ⟨o,op+0*8,none⟩)),.eq (.pointer (some ⟨o,op+0*8,none⟩)),.eq (.agg (bD t.1).toArray),.eq (.pointer (some ⟨w.heap.size,0,none⟩)),.eq (.agg (bD e).toArray),.eq (.bool (decide (t.1=e))),.eq (.bool (decide (t.1=e)))] [32,33,34,35,36,37,38,39,40,41,42,43] rfl rfl rfl rfl ⟨λ_ _ a _ _ _=>xM rfl (a 7 rfl),λA _ _ _ _ he=>have h32:=eT 32 (he.1 rfl);pZ rfl,λA _ _ _ _ he=>have h33:=eT 33 (he.1 rfl);have hc0:=eC A (.int .i64 0);pZ rfl,λ_ _ _ _ _ e=>xM rfl (e.1 rfl),λ_ _ a _ _ e=>yM (e.1 rfl) rfl (a 7 rfl),λ_ _ _ _ _ e=>aI rfl rfl (e.2.1 rfl) (xI rfl Tryz.underlying27 o op 0 oM (e.1 rfl) rfl),λ_ _ _ _ _ e=>aI rfl rfl (e.2.1 rfl) (xK rfl (e.1 rfl)),λ_ _ _ hL _ e=>aI rfl rfl (e.2.1 rfl) (xL rfl (fU (hC.on (b.trans (hL.below.mono b.size)))) Tryz.underlying36 (show(bD t.1).length=4 from rfl) (e.1 rfl)),λ_ _ a _ _ e=>aI rfl rfl (e.1 rfl) (xK rfl (a 3 rfl)),λA w1 hA hL hS he=>aI rfl rfl (he.2.1 rfl) (xL rfl (Df (BB6.on hL.below)) Tryz.underlying36 (show(bD e).length=4 from rfl) (he.1 rfl)),λA _ _ _ _ he=>have h35:=eT 35 (he.2.2.1 rfl);have h39:=eT 39 (he.1 rfl);have h41:=eT 41 (he.2.1 rfl);yZ h35 rfl,λ_ _ _ _ _ e=>pK rfl (e.1 rfl) (e.2.1 rfl),trivial⟩ ?_
      ·intro W2 hL2;simp only[aU,af.eq,af.ret,lZ];go_frame;go_wp2;go_meet
       case rel=>exact⟨by rw[hg2],hL2.below⟩
    case rest =>
     obtain⟨rfl,d⟩:=hcut;replace b:=b.trans (d.mono b.size);replace BB6:=BB6.on d;replace hown6:=hown6.on d;replace hr:=hr.on d;clear d;have hlt6:=BB6.lt;have F:=hown6.base_le
     go_upto_if 43 with (fail)
     go_cut [7] (λv7 wc=>∃(c:Rat)(r':List Value)(rest:List aj),Hid (Blk wc w.heap.size aJ (bD e++r'))/\Hid (gY wc r' c)/\Hid (ai w v7 rest)/\Hid (bR base wc v6 (p.take k))/\Hid (a4=p.take k++JO (e,c) rest)/\Below w.heap.size w wc/\rest.length<=p.length)
     case first =>
      cases g2
      ·go_wp2;go_meet
       case rel =>
        refine⟨q,r,P,zH BB6,zH hr,zH hP6,zH hown6,zH ?_,b,au⟩;rw[u.out,y.out]
        cases P with
        | nil=>rw[RL]
        | cons t P2 =>
         have h1:=M.out rfl t P2 rfl;have h2:t.1≠e:=of_decide_eq_false hg2.symm;rw[UH h1 h2]
      ·obtain⟨t,P2,rfl⟩:∃t P2,P=t::P2:=by
        cases P with
        | nil=>cases hg2
        | cons t P2=>exact⟨t,P2,rfl⟩
       have ac:t.1=e:=of_decide_eq_true hg2.symm;have b3:Rs t.2:=aE t sM;obtain⟨o,op,al,rfl,-,hE,hC⟩:=hP6.get (j:=0) (t:=t) rfl;obtain⟨rt,rfl,a1⟩:=hE;change bL aJ w o (op+0*8) _ at hC;have J:=hP6.drop 1;rw[List.drop_succ_cons,List.drop_zero]at J;change ai w (.slice (if cr=1 then some ⟨o,op,none⟩else(some ⟨o,op,none⟩:Option Addr).map (·.add (1*8))) _ _) _ at J;simp only[List.length_cons]at J aq au ⊢;have hl48:=a1.len;clear hg2 aE M;replace ac:=zH ac;replace F:=zH F;have z:=λW':World=>iA (P:=Tryz.prog) Tryz.underlying27 zJ W' (some ⟨o,op,none⟩) (P2.length+1) cr 1 .i64 (1:Int) rfl oM aq;obtain⟨vz,ag⟩:∃vz:Value,vz=.slice (if cr=1 then some ⟨o,op,none⟩else(some ⟨o,op,none⟩:Option Addr).map (·.add (1*8))) (P2.length+1 - 1) (cr - 1):=⟨_,rfl⟩;rw[<-ag]at z J;replace ag:=zH ag;replace z:=zH z
       go_upto_region 7 with (fail)
       refine aC mixed (none) (0) (fM.none) [.eq (.pointer (some ⟨w.heap.size,0+4,none⟩)),.eq (.agg (r).toArray),.eq (.slice (some ⟨o,op,none⟩) (P2.length+1) cr),.eq (.pointer (some ⟨o,op+0*8,none⟩)),.eq (.pointer (some ⟨o,op+0*8+4,none⟩)),.eq (.agg (rt).toArray),.rat dM ((q+t.2)),.eq (.pointer (some ⟨w.heap.size,0+4,none⟩))] [44,45,46,47,48,49,50,51] rfl rfl rfl rfl ⟨λ_ _ a _ _ _=>ae rfl (FJ rfl (a 3 rfl)),λ_ _ _ hL _ e=>pL rfl (vX (BB6.on hL.below)) Tryz.underlying41 (h4) (e.1 rfl),λ_ _ a _ _ _=>xM rfl (a 7 rfl),λ_ _ _ _ _ e=>pI rfl Tryz.underlying27 o op 0 oM (e.1 rfl) rfl,λ_ _ _ _ _ e=>ae rfl (FJ rfl (e.1 rfl)),λ_ _ _ hL _ e=>pL rfl (iC (hC.on (b.trans (hL.below.mono b.size)))) Tryz.underlying41 (hl48) (e.1 rfl),λA _ _ _ hS he=>have hb:=hS rfl;have h45:=eT 45 (he.1 rfl);have h49:=eT 49 (he.2.1 rfl);have hf0:=eF A 81;cP (f:=81) (args:=#[.agg (r).toArray,.agg (rt).toArray]) (JM _ _ _ _ _ (hr.on hb).rat (a1.on (b.trans (hb.mono b.size))).rat av b3),λ_ _ a _ _ _=>ae rfl (FJ rfl (a 3 rfl)),trivial⟩ ?_
       ·intro W2 hL2;have hb2:=hL2.below;simp only[aU,af.eq,af.rat,af.of,lZ];rintro v50 h50;obtain⟨n5,a5,k5,c5,n6,a6,k6,c6,rfl⟩:=fF h50;go_frame;have C6:=BB6.on hb2;have hown2:=hown6.on hb2;have hbr2:=b.trans (hb2.mono b.size);have ao:(bD e++r).length=8:=by rw[List.length_append,h4];rfl
        clear hL2 BB6 hown6 b
        go_upto_region 8 with (refine kF rfl _ (.tmp 51) (.tmp 50) rfl w.heap.size (0+4) aJ _ _ rfl rfl C6 (by rw[ao];simp) dD dH ?_;intro W3 R3 hl3)
        have hR3:Blk W3 w.heap.size aJ (bD e++[.bool n5,.slice a5 k5 c5,.bool n6,.slice a6 k6 c6]):=by have e1:(bD e++r).take (0+4)=bD e:=rfl;have e2:(bD e++r).drop (0+4+4)=[]:=List.drop_of_length_le (by rw[ao];omega);have:=R3;simp only[List.size_toArray,List.length_cons,List.length_nil]at this;rw[e1,e2,List.append_nil]at this;exact this
        have b4:v6.ownBlock≠some w.heap.size:=λh=>by have:=(F.out _ h).1;omega
        replace z:=z.out;have hown3:=hown2.lr hl3 (aV dM) (.inr b4);have h503:=(h50.lr hl3 dM).cellsC;have hbr3:=hbr2.trans (hl3.belowAt hbr2.size (λk I=>by cases I;exact nL _));go_wp2;go_meet
        case rel =>
         refine⟨q+t.2,_,P2,zH hR3,zH h503,zH J,zH hown3,zH ?_,hbr3,oM⟩;rw[u.out,y.out,UG ac.out]
     case rest =>
      clear hg2 BB6 hP6 hown6 hr b u y F;obtain⟨c,r',rest,hB,hr,x,l,G,b,bd⟩:=hcut;have D:=hB.out;have a7:=hr.out.len
      go_upto_region 9 with (fail)
      have Y:=λW (hb:Below wc.heap.size wc W)=>zM _ _ W (hr.out.on hb).rat;obtain⟨g3,hg3⟩:∃g:Bool,g=(if c≠0/\e.nat=true then true else false):=⟨_,rfl⟩
      go_cut [54,55,56,57,58,59,60,61,62] (λ_ _ _ _ _ _ _ _ v62 wd=>v62=.bool g3/\Below wc.heap.size wc wd)
      case first =>
       by_cases hc:c=0
       ·rw[if_neg (by simp[hc])]at hg3;rw[show jG c.num=0 by rw[hc];rfl]at Y;refine aN trivial (none) (0) (fM.none) [.eq (.pointer (some ⟨w.heap.size,0+4,none⟩)),.eq (.agg (r').toArray),.ret (.int .i64 0),.eq (.bool false),.eq (.bool false),.eq undef,.eq undef,.eq undef,.eq (.bool false)] [54,55,56,57,58,59,60,61,62] rfl rfl rfl rfl ⟨λ_ _ a _ _ _=>ae rfl (FJ rfl (a 3 rfl)),λ_ _ _ hL _ e=>pL rfl (vX (D.on hL.below)) Tryz.underlying41 (a7) (e.1 rfl),λA _ _ _ hS he=>have hb:=hS rfl;have h55:=eT 55 (he.1 rfl);have hf0:=eF A 67;cP (f:=67) (args:=#[.agg (r').toArray]) (Y _ hb),λA _ _ _ _ he=>have h56:=eT 56 (he.1 rfl);have hc0:=eC A (.int .i64 0);pZ rfl,λ_ _ _ _ _ e=>xM rfl (e.1 rfl),λ_ _ _ _ _ e=>nO false (e.1 rfl),λ_ _ _ _ _ e=>nO false (e.2.1 rfl),λ_ _ _ _ _ e=>nO false (e.2.1 rfl),λ_ _ _ _ _ e=>ae rfl (iD rfl (e.1 rfl) rfl rfl),trivial⟩ ?_
        ·intro W2 hL2;simp only[aU,af.eq,af.ret,lZ];go_frame;go_wp2;go_meet
         case rel=>exact⟨by rw[hg3],hL2.below⟩
       ·have hs0:=tF hc;generalize jG c.num=sg at hs0 Y;have hs1:(sg != 0)=true:=by simpa using hs0
        have hg4:g3=e.nat:=by rw[hg3];cases e.nat<;>simp[hc]
        refine aN trivial (none) (0) (fM.none) [.eq (.pointer (some ⟨w.heap.size,0+4,none⟩)),.eq (.agg (r').toArray),.ret (.int .i64 sg),.eq (.bool true),.eq (.bool true),.eq (.pointer (some ⟨w.heap.size,0,none⟩)),.eq (.agg (bD e).toArray),.ret (.bool e.nat),.eq (.bool e.nat)] [54,55,56,57,58,59,60,61,62] rfl rfl rfl rfl ⟨λ_ _ a _ _ _=>ae rfl (FJ rfl (a 3 rfl)),λ_ _ _ hL _ e=>pL rfl (vX (D.on hL.below)) Tryz.underlying41 (a7) (e.1 rfl),λA _ _ _ hS he=>have hb:=hS rfl;have h55:=eT 55 (he.1 rfl);have hf0:=eF A 67;cP (f:=67) (args:=#[.agg (r').toArray]) (Y _ hb),λA _ _ _ _ he=>have h56:=eT 56 (he.1 rfl);have hc0:=eC A (.int .i64 0);pZ rfl,λ_ _ _ _ _ e=>xM rfl (e.1 rfl),λ_ _ a _ _ e=>aI rfl rfl (e.1 rfl) (xK rfl (a 3 rfl)),λA w1 hA hL hS he=>aI rfl rfl (he.2.1 rfl) (xL rfl (Df (D.on hL.below)) Tryz.underlying36 (show(bD e).length=4 from rfl) (he.1 rfl)),λA _ _ _ hS he=>have hb:=hS rfl;have h58:=eT 58 (he.2.1 rfl);have h60:=eT 60 (he.1 rfl);have hf0:=eF A 65;cY (f:=65) (args:=#[.agg (bD e).toArray]) h58 (yB e _),λ_ _ _ _ _ e=>pK rfl (e.1 rfl) (e.2.1 rfl),trivial⟩ ?_
        ·intro W2 hL2;simp only[aU,af.eq,af.ret,lZ];go_frame;go_wp2;go_meet
         case rel=>exact⟨by rw[hg4],hL2.below⟩
      case rest =>
       obtain⟨rfl,d⟩:=hcut;clear Y;replace D:=D.on d;replace hr:=hr.out.on d;replace x:=x.out;replace l:=l.out.on d;replace b:=b.trans (d.mono b.size);clear d hB;have C:∀k,v6.ownBlock=some k->w.heap.size<=k:=λk I=>by have:=(l.base_le k I).1;omega
       have b8:base<=wc.heap.size\/v6.ownBlock=none:=by
        cases hv:v6.ownBlock with
        | none=>exact .inr rfl
        | some k=>have:=l.base_le k hv;exact .inl oM
       have be:(p.take k).length<=p.length:=by simp;omega
       have ax:some w.heap.size≠v6.ownBlock:=λh=>by have:=(l.base_le _ h.symm).1;omega
       cases g3
       ·have hi:JO (e,c) rest=rest:=by
         unfold JO;split
         ·rename_i h;rw[if_pos h]at hg3;cases hg3
         ·rfl
        rw[hi]at G;clear hi hg3;have ab:=x.on b;have S:(p.take k).length+rest.length<=1000000000:=oM
        go_wp2_with (at_builtin;refine dL rfl _ _ 27 rfl Tryz.underlying27 bG rfl rfl (l.rebase) ab S (Nat.zero_le _) ?_;intro v8 w8 hown8 hl8 hv8)
        go_ret;exact⟨_,rfl,by rw[G.out];exact hown8.isSl,b.trans (hl8.belowAt b.size C)⟩
       ·have hi:JO (e,c) rest=(e,c)::rest:=by
         unfold JO;split
         ·rfl
         ·rename_i h;rw[if_neg h]at hg3;cases hg3
        rw[hi]at G;clear hi hg3;have h8:(bD e++r').length=8:=by rw[List.length_append,a7];rfl
        have hown0:=l.rebase
        go_upto_region 10 with (fail)
        refine aN trivial (v6.ownBlock) (aJ) (l.okr) [.eq (v6),.eq (.agg (bD e++r').toArray),.new1 aL fw ((e,c)),.row aL (0) wc.heap.size (p.take k++[(e,c)])] [63,64,65,66] rfl rfl rfl rfl ⟨λ_ _ a _ _ _=>xM rfl (a 6 rfl),λ_ _ a hL _ _=>pL rfl ((D.lr hL ax).cells.range) Tryz.underlying43 (h8) (a 3 rfl),?_,?_,trivial⟩ ?_
        ·intro A w1 hA hL hS he;have h64:=eT 64 (he.1 rfl);refine ae rfl ?_;have hE:(aL:El _).E w1 _ ((e,c)):=⟨_,rfl,hr.lr hL dM⟩;refine fo rfl rfl ((l.okr).lr hL) hE (bu rfl ?_) (λ_ _ h=>h);simp only[List.map_toArray,List.map_cons,List.map_nil,h64];exact bM _ _ ((aL).len hE)
        ·intro A w1 hA hL hS he;have hb:=hS rfl;have h63:=eT 63 (he.1 rfl);obtain⟨v65,h65,f65⟩:=fT 65 (he.2.1 rfl);exact ae rfl (dJ rfl rfl rfl Tryz.underlying27 bG h63 h65 (hown0.on hb) rfl rfl (dU f65) (by simp only[List.length_cons,List.length_nil];omega) (Nat.zero_le _) hL.1.size (λ_ _ h1 h2=>⟨h1,h2⟩))
        ·intro W6 hL6;simp only[aU,af.eq,af.new1,af.row,af.asPure,af.of,af.fragile,lZ];rintro v65 - v66 ⟨hown6,ay⟩;go_frame;have hbW6:=b.trans (hL6.belowAt b.size C);have ab:=x.on hbW6;have S:(p.take k++[(e,c)]).length+rest.length<=1000000000:=by simp only[List.length_append,List.length_cons,List.length_nil];omega
         have bh:w.heap.size<=wc.heap.size:=b.size
         have hbase6:∀k,v66.ownBlock=some k->w.heap.size<=k:=λk I=>by
          rcases ay with h|⟨k',h,ba⟩
          ·exact C k (by rw[<-h];exact I)
          ·rw[h]at I;cases I;omega
         go_wp2_with (at_builtin;refine dL rfl _ _ 27 rfl Tryz.underlying27 bG rfl rfl hown6 ab S (Nat.zero_le _) ?_;intro v8 w8 hown8 hl8 hv8)
         go_ret;exact⟨_,rfl,by rw[G.out];simpa using hown8.isSl,hbW6.trans (hl8.belowAt hbW6.size hbase6)⟩
   ·obtain⟨N,aa⟩:=a0.out rfl;clear M;go_wp2;go_roundw
    case rel=>exact⟨k+1,oM,nM,zH aa,b,zH D⟩
    case measure=>simp[intOf];omega
end Go.Proofs.YtopclbeomcggiaaGreat
end
section
namespace Q
theorem rabs_int(k:Int):bJ (k:Rat)=(k.natAbs:Rat):=by
 unfold bJ;rcases Int.lt_or_le k 0 with h|h
 ·rw[if_pos (by rw[show(0:Rat)=((0:Int):Rat)from rfl];exact Rat.intCast_lt_intCast.2 h)];rw[<-Rat.intCast_neg,<-iN];congr 1;omega
 ·rw[if_neg (by rw[show(0:Rat)=((0:Int):Rat)from rfl];intro b;have:=Rat.intCast_lt_intCast.1 b;omega)];rw[<-iN];congr 1;omega
theorem Di{l:List aj}{k:Nat}{t:aj}(h:l[k]?=some t):canon (l.take (k+1))=ins (canon (l.take k)) t:=by rw[List.take_add_one,h];simp[canon]
end Q
namespace Go.Proofs.YtopclbeomcggiaaGreat
open Go.RowKit Q
theorem JQ{D B:Nat}{c:Rat}(p:0<D)(h:Dv D c)(l:bJ c<=(B:Rat)):c.den∣D/\c.num.natAbs<=B*D:=by
 obtain⟨k,i⟩:=h
 have m:(D:Rat)≠0:=by intro h;have:D=0:=Rat.natCast_inj.1 (by rw[h];rfl);omega
 have hc:c=Rat.divInt k D:=by rw[Rat.divInt_eq_div,iN,<-i];grind
 obtain⟨e1,d⟩:=sZ k D oM;rw[<-hc]at e1 d
 have b:c.den∣D:=by refine Int.natCast_dvd_natCast.1 ⟨(Int.gcd k D:Int),?_⟩;rw[d];exact(Int.ediv_mul_cancel (Int.gcd_dvd_right _ _)).symm
 refine⟨b,?_⟩;have e:bJ c*(D:Rat)<=(B:Rat)*(D:Rat):=Rat.mul_le_mul_of_nonneg_right l Rat.natCast_nonneg;have j:bJ c*(D:Rat)=bJ (k:Rat):=by rw[<-i,jS,bT (c:=(D:Rat)) Rat.natCast_nonneg]
 rw[j,rabs_int,<-Rat.natCast_mul]at e;have n:k.natAbs<=B*D:=Rat.natCast_le_natCast.1 e;have o:c.num.natAbs<=k.natAbs:=by rw[e1];exact Int.natAbs_ediv_le_natAbs _ _
 omega
theorem Mf{B D a b:Nat}(h:B<2^a)(d:D<2^b):B*D<2^(a+b):=by rw[Nat.pow_add];exact Nat.mul_lt_mul'' h d
theorem ve{s:Sz}{c:Rat}(d:s.ok)(h:Dv s.D c)(l:bJ c<=(s.B:Rat)):Rs c:=by obtain⟨i,j⟩:=JQ d.1 h l;have hd:=Nat.le_of_dvd d.1 i;obtain⟨p1,e,m,n,o⟩:=d;refine⟨Nat.le_trans (jU (k:=16) (Nat.lt_of_le_of_lt hd e)) oM,?_⟩;have:=jU (Nat.lt_of_le_of_lt j (Mf (a:=1000) (b:=16) m (show s.D<2^16 from e)));omega
end Go.Proofs.YtopclbeomcggiaaGreat
namespace Q
open Go Go.RowKit Q Go.Proofs.YtopclbeomcggiaaGreat
def Sz.okw (s:Sz):Prop:=0<s.D/\aF s.D<=jF/32/\aF s.B<=jF/32/\s.E<1000000/\s.N<=100000000
theorem Sz.ok.w{s:Sz}(h:s.ok):s.okw:=by obtain⟨b,d,e,i,j⟩:=h;exact⟨b,Nat.le_trans (Ru d) (by unfold jF;omega),Nat.le_trans (jU e) (by unfold jF;omega),i,oM⟩
theorem JR{s:Sz}{c:Rat}(b:s.okw)(h:Dv s.D c)(i:bJ c<=(s.B:Rat)):Rk c:=by obtain⟨d,e⟩:=JQ b.1 h i;have hd:=Nat.le_of_dvd b.1 d;obtain⟨p1,j,m,n,o⟩:=b;refine⟨Nat.le_trans (jf hd) (Nat.le_trans j (by unfold jF;omega)),?_⟩;have k:=jf e;have l:=gL s.B s.D;unfold jF at *;omega
theorem Bd.rs{s:Sz}{l:List aj}(h:Bd s l)(i:s.ok):∀t∈l,Rs t.2:=λt e=>ve i (h.d t e) (Rat.le_trans (uC e) h.b)
end Q
namespace Go.Proofs.YtopclbeomcggiaaGreat
open Go.RowKit Q
end Go.Proofs.YtopclbeomcggiaaGreat
namespace Q
open Go Go.RowKit Q Go.Proofs.YtopclbeomcggiaaGreat
theorem Bd.inRw{s:Sz}{l:List aj}(h:Bd s l)(b:s.okw):∀t∈l,InR t.1:=λt d=>InR.of (K:=s.E) (by have:=b.2.2.2.1;omega) (h.e t d)
theorem Bd.inR{s:Sz}{l:List aj}(h:Bd s l)(b:s.ok):∀t∈l,InR t.1:=h.inRw b.w
end Q
namespace Go.Proofs.YtopclbeomcggiaaGreat
open Go.RowKit Q
end Go.Proofs.YtopclbeomcggiaaGreat
namespace Q
open Go Go.RowKit Q Go.Proofs.YtopclbeomcggiaaGreat
theorem Bd.len{s:Sz}{l:List aj}(h:Bd s l)(b:s.ok):l.length<=100000000:=by have:=h.n;have:=b.2.2.2.2;omega
end Q
namespace Go.Proofs.YtopclbeomcggiaaGreat
open Go.RowKit Q
end Go.Proofs.YtopclbeomcggiaaGreat
namespace Q
open Go Go.RowKit Q Go.Proofs.YtopclbeomcggiaaGreat
theorem Bd.take{s:Sz}{l:List aj}(h:Bd s l)(k:Nat):Bd s (l.take k):=h.sub (List.take_sublist _ _)
end Q
namespace Go.Proofs.YtopclbeomcggiaaGreat
open Go.RowKit Q
theorem JS{s:Sz}:∀{l:List aj},(∀t∈l,Dv s.D t.2)->∀e,Dv s.D (cf l e)/\bJ (cf l e)<=bF l
 | [],_,e=>⟨by rw[jK];exact Dv.zero _,by rw[jK];simp only[bF,bJ];split<;>grind⟩
 | t::l,h,e=>by
  obtain⟨b,j⟩:=JS (s:=s) (l:=l) (λt i=>h t (by simp[i])) e;rw[bK];have d:=h t sM;have k:=fV t.2;split
  ·refine⟨d.add b,?_⟩;have:=Ca t.2 (cf l e);simp only[bF];grind
  ·have e0:0+cf l e=cf l e:=gR;rw[e0];refine⟨b,?_⟩;simp only[bF];grind
end Go.Proofs.YtopclbeomcggiaaGreat
namespace Q
open Go Go.RowKit Q Go.Proofs.YtopclbeomcggiaaGreat
theorem Bd.rkw{s:Sz}{l:List aj}(h:Bd s l)(i:s.okw):∀t∈l,Rk t.2:=λt e=>JR i (h.d t e) (Rat.le_trans (uC e) h.b)
theorem Bd.oklw{s:Sz}{l:List aj}(h:Bd s l)(i:s.okw):UA l where
 n:=Nat.le_trans h.n i.2.2.2.2
 r:=λt j=>⟨h.inRw i t j,h.rkw i t j⟩
 c:=λk e=>by obtain⟨m,o⟩:=JS (s:=s) (h.take k).d e;exact JR i m (Rat.le_trans o (h.take k).b)
end Q
namespace Go.Proofs.YtopclbeomcggiaaGreat
open Go.RowKit Q
theorem FR(v:Value)(l:List aj)(s:Sz)(w:World)(h:ai w v l)(hb:Bd s l)(q:s.ok):Calls Tryz.prog 43 #[v] w (aP w (canon l)):=by
 obtain⟨ap,cp,rfl,C⟩:=h.shape;have B:=hb.len q;have x:=zH (hb.rs q);have r:=zH (λk=>(hb.take k).canon.rs q);have u:=zH (λk=>(hb.take k).canon.len q);clear hb
 go_enter Tryz.func43,Tryz.ntmps43
 go_wp2;have hb0:Below w.heap.size w (w.alloc (.cells #[] aJ)):=(Below.refl _ _).alloc (nL _) _;have j:ai (w.alloc (.cells #[] aJ)) (.slice (some ⟨w.heap.size,0,none⟩) 0 0) []:=(fQ aL w).isSl;change Below w.heap.size w (w.alloc (.cells #[] 43))at hb0;change ai (w.alloc (.cells #[] 43)) _ _ at j
 go_loopw [3,4] (λo i wr=>∃k:Nat,k<=l.length/\i=.int .i64 k/\Hid (ai wr o (canon (l.take k)))/\Below w.heap.size w wr) (λ_ i _=>l.length-(intOf i).toNat)
 case atStart=>exact⟨0,oM,rfl,zH j,hb0⟩
 case round =>
  clear j hb0;obtain⟨k,D,rfl,hP,b⟩:=hrel;by_cases p:k<l.length
  ·have d:l[k]?=some l[k]:=gE p;generalize l[k]=t at d;obtain⟨y,op,m,rfl,-,hE,hC⟩:=(h.on b).get d;change bL aJ wr y (op+k*8) _ at hC;have z:(k:Int)<l.length:=oM;have hr:=hC.range;have h8:m.length=8:=aL.len hE;have n:=Dh u3 (canon (l.take k)) m t wr hP.out hE (r.out k) (x.out t (List.mem_of_getElem? d)) (u.out k);rw[<-Di d]at n
   go_wp2_with (first
    | (refine ak rfl _ _ 26 rfl aJ Tryz.underlying26 _ 8 96 kM _ _ _ rfl .i64 _ rfl k rfl p y op rfl ?_)
    | (refine wpList_load_mid rfl 43 _ rfl _ _ rfl _ _ hr Tryz.underlying43 rfl (by rw[h8];kernel_rfl) ?_)
    | (go_at_call 82;refine n.mono ?_;rintro en w3 ⟨v3,rfl,hv3,hb3⟩))
   go_roundw
   case rel=>exact⟨k+1,oM,nM,zH hv3,b.trans (hb3.mono b.size)⟩
   case measure=>simp[intOf];omega
  ·obtain rfl:k=l.length:=oM;rw[tL (nL _)]at hP;go_wp2;go_ret;exact⟨_,rfl,hP.out,b⟩
end Go.Proofs.YtopclbeomcggiaaGreat
end
section
namespace Go.Proofs.YtopclbeomcggiaaGreat
open Go.RowKit Q Go.WideMaps Go.Maps
theorem Dj(v:Nat)(w:World)(hv:v<4):Calls Tryz.prog 37 #[.int .i64 v] w (aP w (sF v)):=by
 have l:=λW=>gF 1 W oM oM;obtain rfl|rfl|rfl|rfl:v=0\/v=1\/v=2\/v=3:=oM
 ·go_enter Tryz.func37,Tryz.ntmps37
  go_upto_region 2 with (go_at_call 24;refine(l _).mono ?_;rintro e w1 ⟨v1,rfl,hv1,hb1⟩;obtain⟨n,a,k,c,n',a',k',c',rfl⟩:=fF hv1)
  refine jg λW hb2 B j=>?_;have z:=B.at1 0 _ rfl;have hf:=B.frozen 0
  go_upto_region 3 with (fail)
  have b:=B.set 0 (.int .i64 1);have hb3:Below w1.heap.size W (W.setCell ⟨w1.heap.size,0,none⟩ (.int .i64 1)):=bI (nL _) _;generalize W.setCell ⟨w1.heap.size,0,none⟩ (.int .i64 1)=W3 at *;have hv3:=(hv1.on hb2);have hb13:=hb2.trans hb3;have z1:=b.at1 0 _ rfl;have z2:=b.at1 1 _ rfl;have z3:=b.at1 2 _ rfl;have z4:=b.at1 3 _ rfl;have y1:=b.at1 4 _ rfl;have y2:=b.at1 5 _ rfl;have y3:=b.at1 6 _ rfl;have y4:=b.at1 7 _ rfl;clear z hf;go_wp2;go_ret;have i:Below W3.heap.size W3 (W3.alloc (.cells #[.int .i64 1,.int .i64 0,.int .i64 0,.int .i64 0,.bool n,.slice a k c,.bool n',.slice a' k' c'] aJ)):=(Below.refl _ _).alloc (nL _) _;have d:=hb13.trans (i.mono hb13.size);exact⟨_,rfl,mO (t:=(Ap 0,1)) (Blk.new W3 aJ [.int .i64 1,.int .i64 0,.int .i64 0,.int .i64 0,.bool n,.slice a k c,.bool n',.slice a' k' c']) ⟨[.bool n,.slice a k c,.bool n',.slice a' k' c'],rfl,(hv1.on d).cellsC⟩,hb1.trans (d.mono hb1.size)⟩
 ·go_enter Tryz.func37,Tryz.ntmps37
  go_upto_region 2 with (go_at_call 24;refine(l _).mono ?_;rintro e w1 ⟨v1,rfl,hv1,hb1⟩;obtain⟨n,a,k,c,n',a',k',c',rfl⟩:=fF hv1)
  refine jg λW hb2 B j=>?_;have z:=B.at1 1 _ rfl;have hf:=B.frozen 1
  go_upto_region 3 with (fail)
  have b:=B.set 1 (.int .i64 1);have hb3:Below w1.heap.size W (W.setCell ⟨w1.heap.size,1,none⟩ (.int .i64 1)):=bI (nL _) _;generalize W.setCell ⟨w1.heap.size,1,none⟩ (.int .i64 1)=W3 at *;have hv3:=(hv1.on hb2);have hb13:=hb2.trans hb3;have z1:=b.at1 0 _ rfl;have z2:=b.at1 1 _ rfl;have z3:=b.at1 2 _ rfl;have z4:=b.at1 3 _ rfl;have y1:=b.at1 4 _ rfl;have y2:=b.at1 5 _ rfl;have y3:=b.at1 6 _ rfl;have y4:=b.at1 7 _ rfl;clear z hf;go_wp2;go_ret;have i:Below W3.heap.size W3 (W3.alloc (.cells #[.int .i64 0,.int .i64 1,.int .i64 0,.int .i64 0,.bool n,.slice a k c,.bool n',.slice a' k' c'] aJ)):=(Below.refl _ _).alloc (nL _) _;have d:=hb13.trans (i.mono hb13.size);exact⟨_,rfl,mO (t:=(Ap 1,1)) (Blk.new W3 aJ [.int .i64 0,.int .i64 1,.int .i64 0,.int .i64 0,.bool n,.slice a k c,.bool n',.slice a' k' c']) ⟨[.bool n,.slice a k c,.bool n',.slice a' k' c'],rfl,(hv1.on d).cellsC⟩,hb1.trans (d.mono hb1.size)⟩
 ·go_enter Tryz.func37,Tryz.ntmps37
  go_upto_region 2 with (go_at_call 24;refine(l _).mono ?_;rintro e w1 ⟨v1,rfl,hv1,hb1⟩;obtain⟨n,a,k,c,n',a',k',c',rfl⟩:=fF hv1)
  refine jg λW hb2 B j=>?_;have z:=B.at1 2 _ rfl;have hf:=B.frozen 2
  go_upto_region 3 with (fail)
  have b:=B.set 2 (.int .i64 1);have hb3:Below w1.heap.size W (W.setCell ⟨w1.heap.size,2,none⟩ (.int .i64 1)):=bI (nL _) _;generalize W.setCell ⟨w1.heap.size,2,none⟩ (.int .i64 1)=W3 at *;have hv3:=(hv1.on hb2);have hb13:=hb2.trans hb3;have z1:=b.at1 0 _ rfl;have z2:=b.at1 1 _ rfl;have z3:=b.at1 2 _ rfl;have z4:=b.at1 3 _ rfl;have y1:=b.at1 4 _ rfl;have y2:=b.at1 5 _ rfl;have y3:=b.at1 6 _ rfl;have y4:=b.at1 7 _ rfl;clear z hf;go_wp2;go_ret;have i:Below W3.heap.size W3 (W3.alloc (.cells #[.int .i64 0,.int .i64 0,.int .i64 1,.int .i64 0,.bool n,.slice a k c,.bool n',.slice a' k' c'] aJ)):=(Below.refl _ _).alloc (nL _) _;have d:=hb13.trans (i.mono hb13.size);exact⟨_,rfl,mO (t:=(Ap 2,1)) (Blk.new W3 aJ [.int .i64 0,.int .i64 0,.int .i64 1,.int .i64 0,.bool n,.slice a k c,.bool n',.slice a' k' c']) ⟨[.bool n,.slice a k c,.bool n',.slice a' k' c'],rfl,(hv1.on d).cellsC⟩,hb1.trans (d.mono hb1.size)⟩
 ·go_enter Tryz.func37,Tryz.ntmps37
  go_upto_region 2 with (go_at_call 24;refine(l _).mono ?_;rintro e w1 ⟨v1,rfl,hv1,hb1⟩;obtain⟨n,a,k,c,n',a',k',c',rfl⟩:=fF hv1)
  refine jg λW hb2 B j=>?_;have z:=B.at1 3 _ rfl;have hf:=B.frozen 3
  go_upto_region 3 with (fail)
  have b:=B.set 3 (.int .i64 1);have hb3:Below w1.heap.size W (W.setCell ⟨w1.heap.size,3,none⟩ (.int .i64 1)):=bI (nL _) _;generalize W.setCell ⟨w1.heap.size,3,none⟩ (.int .i64 1)=W3 at *;have hv3:=(hv1.on hb2);have hb13:=hb2.trans hb3;have z1:=b.at1 0 _ rfl;have z2:=b.at1 1 _ rfl;have z3:=b.at1 2 _ rfl;have z4:=b.at1 3 _ rfl;have y1:=b.at1 4 _ rfl;have y2:=b.at1 5 _ rfl;have y3:=b.at1 6 _ rfl;have y4:=b.at1 7 _ rfl;clear z hf;go_wp2;go_ret;have i:Below W3.heap.size W3 (W3.alloc (.cells #[.int .i64 0,.int .i64 0,.int .i64 0,.int .i64 1,.bool n,.slice a k c,.bool n',.slice a' k' c'] aJ)):=(Below.refl _ _).alloc (nL _) _;have d:=hb13.trans (i.mono hb13.size);exact⟨_,rfl,mO (t:=(Ap 3,1)) (Blk.new W3 aJ [.int .i64 0,.int .i64 0,.int .i64 0,.int .i64 1,.bool n,.slice a k c,.bool n',.slice a' k' c']) ⟨[.bool n,.slice a k c,.bool n',.slice a' k' c'],rfl,(hv1.on d).cellsC⟩,hb1.trans (d.mono hb1.size)⟩
theorem PO(c:Rat):canon [(e0,c)]=bW c:=by
 show ins [] (e0,c)=_;unfold ins bW;by_cases h:c=0
 ·rw[if_pos h,if_neg (by simp[h])]
 ·rw[if_neg h,if_pos ⟨h,rfl⟩]
theorem xq(v:Value)(c:Rat)(s:Sz)(w:World)(h:bO w v c)(hb:Bd s [(e0,c)])(l:s.ok):Calls Tryz.prog 72 #[v] w (aP w (bW c)):=by
 obtain⟨n,a,k,q,n',a',k',i,rfl⟩:=fF h;have d:=λW v hv=>FR v [(e0,c)] s W hv hb l;rw[PO]at d;clear hb l
 go_enter Tryz.func72,Tryz.ntmps72
 go_upto_region 1 with (fail)
 refine jg λW hb B m=>?_;have y1:=B.at1 0 _ rfl;have y2:=B.at1 1 _ rfl;have y3:=B.at1 2 _ rfl;have y4:=B.at1 3 _ rfl;have b:Below W.heap.size W (W.alloc (.cells #[.int .i64 0,.int .i64 0,.int .i64 0,.int .i64 0,.bool n,.slice a k q,.bool n',.slice a' k' i] aJ)):=(Below.refl _ _).alloc (nL _) _
 have j:ai (W.alloc (.cells #[.int .i64 0,.int .i64 0,.int .i64 0,.int .i64 0,.bool n,.slice a k q,.bool n',.slice a' k' i] aJ)) (.slice (some ⟨W.heap.size,0,none⟩) 1 1) [(e0,c)] :=
  mO (t:=(e0,c)) (Blk.new W aJ [.int .i64 0,.int .i64 0,.int .i64 0,.int .i64 0,.bool n,.slice a k q,.bool n',.slice a' k' i]) ⟨[.bool n,.slice a k q,.bool n',.slice a' k' i],rfl,((h.on hb).on b).cellsC⟩
 go_wp2_with (go_at_call 43;refine(d _ _ j).mono ?_;rintro e w4 ⟨v4,rfl,hv4,hb4⟩)
 go_ret;exact⟨_,rfl,hv4,hb.trans ((b.trans (hb4.mono b.size)).mono hb.size)⟩
theorem Mg(n:Int)(s:Sz)(w:World)(h1:-4611686018427387904<=n)(h2:n<=4611686018427387904)(hb:Bd s [(e0,(n:Rat))])(b:s.ok):Calls Tryz.prog 79 #[.int .i64 n] w (aP w (bW n)):=by
 go_enter Tryz.func79,Tryz.ntmps79
 go_wp2_with (first
  | (go_at_call 24;refine(gF n _ h1 h2).mono ?_;rintro e w1 ⟨v1,rfl,hv1,hb1⟩)
  | (go_at_call 72;refine(xq _ _ s _ hv1 hb b).mono ?_;rintro e w2 ⟨v2,rfl,hv2,hb2⟩))
 go_ret;exact⟨_,rfl,hv2,hb1.trans (hb2.mono hb1.size)⟩
theorem XV{p q:List aj}(d:p.length=q.length)(h:∀j:Nat,j<p.length->p[j]?=q[j]?):p=q:=by
 apply List.ext_getElem? ;intro j;by_cases b:j<p.length
 ·exact h j b
 ·rw[gN oM,gN oM]
theorem Mh(I J:Value)(p q:List aj)(w:World)(hp:ai w I p)(hq:ai w J q)(D:∀t∈p,Rk t.2)(F:∀t∈q,Rk t.2)(Z:p.length<=100000000) :
  Calls Tryz.prog 45 #[I,J] w (pX w (.bool (decide (p=q)))):=by
 obtain⟨ap,cp,rfl,M⟩:=hp.shape;obtain⟨X,x,rfl,N⟩:=hq.shape;obtain⟨R,hR⟩:∃R,R=decide (p=q):=⟨_,rfl⟩;rw[<-hR];replace hR:=zH hR;by_cases u:p.length=q.length
 ·have B:((p.length:Int) != q.length)=false:=by simp[u]
  replace D:=zH D;replace F:=zH F;replace u:=zH u
  go_enter Tryz.func45,Tryz.ntmps45
  go_wp2
  go_loopw [5] (λi wr=>∃k:Nat,k<=p.length/\i=.int .i64 k/\Hid (∀j:Nat,j<k->p[j]?=q[j]?)/\Below w.heap.size w wr) (λi _=>p.length-(intOf i).toNat)
  case atStart=>exact⟨0,oM,rfl,zH (λj h=>oM),Below.refl _ _⟩
  case round =>
   obtain⟨k,Y,rfl,r,b⟩:=hrel;by_cases m:k<p.length
   ·have hj1:p[k]?=some p[k]:=gE m;have n:k<q.length:=by have:=u.out;omega
    have hj2:q[k]?=some q[k]:=gE n;generalize p[k]=s at hj1;generalize q[k]=t at hj2;obtain⟨b1,o1,cs1,rfl,-,hE1,hC1⟩:=hp.get hj1;obtain⟨b2,o2,VJ,rfl,-,hE2,hC2⟩:=hq.get hj2;obtain⟨r1,rfl,hr1⟩:=hE1;obtain⟨r2,rfl,hr2⟩:=hE2;change bL aJ w b1 (o1+k*8) _ at hC1;change bL aJ w b2 (o2+k*8) _ at hC2;have y:=D.out s (List.mem_of_getElem? hj1);have z:=F.out t (List.mem_of_getElem? hj2);have G:(k:Int)<p.length:=oM;have hl1:=hr1.len;have hl2:=hr2.len;have hex:=λL=>RN s.1 t.1 L
    have cK:s=t->Hid (∀j:Nat,j<k+1->p[j]?=q[j]?):=λh j S=>by
     rcases Nat.lt_or_ge j k with h'|h'
     ·exact r.out j h'
     ·obtain rfl:j=k:=oM;rw[hj1,hj2,h]
    have d:s≠t->Hid (R=false):=λh=>by rw[hR.out,decide_eq_false_iff_not];intro C;rw[C,hj2]at hj1;exact h (Option.some.inj hj1.symm)
    clear hj1 hj2 r
    go_upto_region 6 with (fail)
    by_cases he:s.1=t.1
    ·have hd:decide (s.1=t.1)=true:=by simpa using he
     rw[hd]at hex;replace he:=zH he;by_cases hc:s.2=t.2
     ·have l:=cK (Prod.ext he.out hc);have o:decide (s.2=t.2)=true:=by simpa using hc
      clear cK d hd hc;refine aC mixed (none) (0) (fM.none) [.eq (.slice (some ⟨b1,o1,none⟩) p.length cp),.eq (.int .i64 k),.eq (.pointer (some ⟨b1,o1+k*8,none⟩)),.eq (.pointer (some ⟨b1,o1+k*8,none⟩)),.eq (.agg (bD s.1).toArray),.eq (.slice (some ⟨b2,o2,none⟩) q.length x),.eq (.int .i64 k),.eq (.pointer (some ⟨b2,o2+k*8,none⟩)),.eq (.pointer (some ⟨b2,o2+k*8,none⟩)),.eq (.agg (bD t.1).toArray),.eq (.bool false),.eq (.bool false),.eq (.slice (some ⟨b1,o1,none⟩) p.length cp),.eq (.int .i64 k),.eq (.pointer (some ⟨b1,o1+k*8,none⟩)),.eq (.pointer (some ⟨b1,o1+k*8+4,none⟩)),.eq (.agg (r1).toArray),.eq (.slice (some ⟨b2,o2,none⟩) q.length x),.eq (.int .i64 k),.eq (.pointer (some ⟨b2,o2+k*8,none⟩)),.eq (.pointer (some ⟨b2,o2+k*8+4,none⟩)),.eq (.agg (r2).toArray),.ret (.bool true),.eq (.bool false),.eq (.bool false)] [17,18,19,20,21,22,23,24,25,26,27,28,29,30,31,32,33,34,35,36,37,38,39,40,41] rfl rfl rfl rfl ⟨λ_ _ a _ _ _=>xM rfl (a 0 rfl),λ_ _ a _ _ _=>xM rfl (a 5 rfl),λ_ _ _ _ _ e=>pI rfl Tryz.underlying27 b1 o1 k (m) (e.1 rfl) (e.2.1 rfl),λ_ _ _ _ _ e=>ae rfl (xK rfl (e.1 rfl)),λ_ _ _ hL _ e=>pL rfl (fU (hC1.on (b.trans (hL.below.mono b.size)))) Tryz.underlying36 (show(bD s.1).length=4 from rfl) (e.1 rfl),λ_ _ a _ _ _=>xM rfl (a 1 rfl),λ_ _ a _ _ _=>xM rfl (a 5 rfl),λ_ _ _ _ _ e=>pI rfl Tryz.underlying27 b2 o2 k (n) (e.1 rfl) (e.2.1 rfl),λ_ _ _ _ _ e=>ae rfl (xK rfl (e.1 rfl)),λ_ _ _ hL _ e=>pL rfl (fU (hC2.on (b.trans (hL.below.mono b.size)))) Tryz.underlying36 (show(bD t.1).length=4 from rfl) (e.1 rfl),λA _ _ _ _ he=>have h21:=eT 21 (he.1 rfl);have h26:=eT 26 (he.2.1 rfl);pZ rfl,λ_ _ _ _ _ e=>xM rfl (e.1 rfl),λ_ _ a _ _ e=>yM (e.1 rfl) rfl (a 0 rfl),λ_ _ a _ _ e=>yM (e.1 rfl) rfl (a 5 rfl),λ_ _ _ _ _ e=>aI rfl rfl (e.2.2.1 rfl) (xI rfl Tryz.underlying27 b1 o1 k (m) (e.1 rfl) (e.2.1 rfl)),λ_ _ _ _ _ e=>aI rfl rfl (e.2.1 rfl) (FJ rfl (e.1 rfl)),λ_ _ _ hL _ e=>aI rfl rfl (e.2.1 rfl) (xL rfl (iC (hC1.on (b.trans (hL.below.mono b.size)))) Tryz.underlying41 (hl1) (e.1 rfl)),λ_ _ a _ _ e=>yM (e.1 rfl) rfl (a 1 rfl),λ_ _ a _ _ e=>yM (e.1 rfl) rfl (a 5 rfl),λ_ _ _ _ _ e=>aI rfl rfl (e.2.2.1 rfl) (xI rfl Tryz.underlying27 b2 o2 k (n) (e.1 rfl) (e.2.1 rfl)),λ_ _ _ _ _ e=>aI rfl rfl (e.2.1 rfl) (FJ rfl (e.1 rfl)),λ_ _ _ hL _ e=>aI rfl rfl (e.2.1 rfl) (xL rfl (iC (hC2.on (b.trans (hL.below.mono b.size)))) Tryz.underlying41 (hl2) (e.1 rfl)),λA _ _ _ hS he=>have hb:=hS rfl;have h28:=eT 28 (he.2.2.1 rfl);have h33:=eT 33 (he.1 rfl);have h38:=eT 38 (he.2.1 rfl);have hf0:=eF A 23;cY (f:=23) (args:=#[.agg (r1).toArray,.agg (r2).toArray]) h28 (o▸FQ _ _ _ _ _ (hr1.on (b.trans (hb.mono b.size))).rat (hr2.on (b.trans (hb.mono b.size))).rat y z),λA _ _ _ _ he=>have h28:=eT 28 (he.2.1 rfl);have h39:=eT 39 (he.1 rfl);yZ h28 rfl,λ_ _ _ _ _ e=>pK rfl (e.1 rfl) (e.2.1 rfl),trivial⟩ ?_
      ·intro W2 hL2;simp only[aU,af.eq,af.ret,lZ];go_frame;clear hex;go_wp2;go_roundw
       case rel=>exact⟨k+1,oM,nM,l,b.trans (hL2.below.mono b.size)⟩
       case measure=>simp[intOf];omega
     ·have l:=d (λh=>hc (by rw[h]));have o:decide (s.2=t.2)=false:=by simpa using hc
      clear cK d hd hc;refine aC mixed (none) (0) (fM.none) [.eq (.slice (some ⟨b1,o1,none⟩) p.length cp),.eq (.int .i64 k),.eq (.pointer (some ⟨b1,o1+k*8,none⟩)),.eq (.pointer (some ⟨b1,o1+k*8,none⟩)),.eq (.agg (bD s.1).toArray),.eq (.slice (some ⟨b2,o2,none⟩) q.length x),.eq (.int .i64 k),.eq (.pointer (some ⟨b2,o2+k*8,none⟩)),.eq (.pointer (some ⟨b2,o2+k*8,none⟩)),.eq (.agg (bD t.1).toArray),.eq (.bool false),.eq (.bool false),.eq (.slice (some ⟨b1,o1,none⟩) p.length cp),.eq (.int .i64 k),.eq (.pointer (some ⟨b1,o1+k*8,none⟩)),.eq (.pointer (some ⟨b1,o1+k*8+4,none⟩)),.eq (.agg (r1).toArray),.eq (.slice (some ⟨b2,o2,none⟩) q.length x),.eq (.int .i64 k),.eq (.pointer (some ⟨b2,o2+k*8,none⟩)),.eq (.pointer (some ⟨b2,o2+k*8+4,none⟩)),.eq (.agg (r2).toArray),.ret (.bool false),.eq (.bool true),.eq (.bool true)] [17,18,19,20,21,22,23,24,25,26,27,28,29,30,31,32,33,34,35,36,37,38,39,40,41] rfl rfl rfl rfl ⟨λ_ _ a _ _ _=>xM rfl (a 0 rfl),λ_ _ a _ _ _=>xM rfl (a 5 rfl),λ_ _ _ _ _ e=>pI rfl Tryz.underlying27 b1 o1 k (m) (e.1 rfl) (e.2.1 rfl),λ_ _ _ _ _ e=>ae rfl (xK rfl (e.1 rfl)),λ_ _ _ hL _ e=>pL rfl (fU (hC1.on (b.trans (hL.below.mono b.size)))) Tryz.underlying36 (show(bD s.1).length=4 from rfl) (e.1 rfl),λ_ _ a _ _ _=>xM rfl (a 1 rfl),λ_ _ a _ _ _=>xM rfl (a 5 rfl),λ_ _ _ _ _ e=>pI rfl Tryz.underlying27 b2 o2 k (n) (e.1 rfl) (e.2.1 rfl),λ_ _ _ _ _ e=>ae rfl (xK rfl (e.1 rfl)),λ_ _ _ hL _ e=>pL rfl (fU (hC2.on (b.trans (hL.below.mono b.size)))) Tryz.underlying36 (show(bD t.1).length=4 from rfl) (e.1 rfl),λA _ _ _ _ he=>have h21:=eT 21 (he.1 rfl);have h26:=eT 26 (he.2.1 rfl);pZ rfl,λ_ _ _ _ _ e=>xM rfl (e.1 rfl),λ_ _ a _ _ e=>yM (e.1 rfl) rfl (a 0 rfl),λ_ _ a _ _ e=>yM (e.1 rfl) rfl (a 5 rfl),λ_ _ _ _ _ e=>aI rfl rfl (e.2.2.1 rfl) (xI rfl Tryz.underlying27 b1 o1 k (m) (e.1 rfl) (e.2.1 rfl)),λ_ _ _ _ _ e=>aI rfl rfl (e.2.1 rfl) (FJ rfl (e.1 rfl)),λ_ _ _ hL _ e=>aI rfl rfl (e.2.1 rfl) (xL rfl (iC (hC1.on (b.trans (hL.below.mono b.size)))) Tryz.underlying41 (hl1) (e.1 rfl)),λ_ _ a _ _ e=>yM (e.1 rfl) rfl (a 1 rfl),λ_ _ a _ _ e=>yM (e.1 rfl) rfl (a 5 rfl),λ_ _ _ _ _ e=>aI rfl rfl (e.2.2.1 rfl) (xI rfl Tryz.underlying27 b2 o2 k (n) (e.1 rfl) (e.2.1 rfl)),λ_ _ _ _ _ e=>aI rfl rfl (e.2.1 rfl) (FJ rfl (e.1 rfl)),λ_ _ _ hL _ e=>aI rfl rfl (e.2.1 rfl) (xL rfl (iC (hC2.on (b.trans (hL.below.mono b.size)))) Tryz.underlying41 (hl2) (e.1 rfl)),λA _ _ _ hS he=>have hb:=hS rfl;have h28:=eT 28 (he.2.2.1 rfl);have h33:=eT 33 (he.1 rfl);have h38:=eT 38 (he.2.1 rfl);have hf0:=eF A 23;cY (f:=23) (args:=#[.agg (r1).toArray,.agg (r2).toArray]) h28 (o▸FQ _ _ _ _ _ (hr1.on (b.trans (hb.mono b.size))).rat (hr2.on (b.trans (hb.mono b.size))).rat y z),λA _ _ _ _ he=>have h28:=eT 28 (he.2.1 rfl);have h39:=eT 39 (he.1 rfl);yZ h28 rfl,λ_ _ _ _ _ e=>pK rfl (e.1 rfl) (e.2.1 rfl),trivial⟩ ?_
      ·intro W2 hL2;simp only[aU,af.eq,af.ret,lZ];go_frame;clear hex;go_wp2;go_ret;exact⟨by rw[l.out]<;>rfl,b.trans (hL2.below.mono b.size)⟩
    ·have l:=d (λh=>he (by rw[h]));have hd:decide (s.1=t.1)=false:=by simpa using he
     rw[hd]at hex;clear cK d hd he;refine aC mixed (none) (0) (fM.none) [.eq (.slice (some ⟨b1,o1,none⟩) p.length cp),.eq (.int .i64 k),.eq (.pointer (some ⟨b1,o1+k*8,none⟩)),.eq (.pointer (some ⟨b1,o1+k*8,none⟩)),.eq (.agg (bD s.1).toArray),.eq (.slice (some ⟨b2,o2,none⟩) q.length x),.eq (.int .i64 k),.eq (.pointer (some ⟨b2,o2+k*8,none⟩)),.eq (.pointer (some ⟨b2,o2+k*8,none⟩)),.eq (.agg (bD t.1).toArray),.eq (.bool true),.eq (.bool true),.eq undef,.eq undef,.eq undef,.eq undef,.eq undef,.eq undef,.eq undef,.eq undef,.eq undef,.eq undef,.eq undef,.eq undef,.eq (.bool true)] [17,18,19,20,21,22,23,24,25,26,27,28,29,30,31,32,33,34,35,36,37,38,39,40,41] rfl rfl rfl rfl ⟨λ_ _ a _ _ _=>xM rfl (a 0 rfl),λ_ _ a _ _ _=>xM rfl (a 5 rfl),λ_ _ _ _ _ e=>pI rfl Tryz.underlying27 b1 o1 k (m) (e.1 rfl) (e.2.1 rfl),λ_ _ _ _ _ e=>ae rfl (xK rfl (e.1 rfl)),λ_ _ _ hL _ e=>pL rfl (fU (hC1.on (b.trans (hL.below.mono b.size)))) Tryz.underlying36 (show(bD s.1).length=4 from rfl) (e.1 rfl),λ_ _ a _ _ _=>xM rfl (a 1 rfl),λ_ _ a _ _ _=>xM rfl (a 5 rfl),λ_ _ _ _ _ e=>pI rfl Tryz.underlying27 b2 o2 k (n) (e.1 rfl) (e.2.1 rfl),λ_ _ _ _ _ e=>ae rfl (xK rfl (e.1 rfl)),λ_ _ _ hL _ e=>pL rfl (fU (hC2.on (b.trans (hL.below.mono b.size)))) Tryz.underlying36 (show(bD t.1).length=4 from rfl) (e.1 rfl),λA _ _ _ _ he=>have h21:=eT 21 (he.1 rfl);have h26:=eT 26 (he.2.1 rfl);pZ rfl,λ_ _ _ _ _ e=>xM rfl (e.1 rfl),λ_ _ _ _ _ e=>nO true (e.1 rfl),λ_ _ _ _ _ e=>nO true (e.1 rfl),λ_ _ _ _ _ e=>nO true (e.2.2.1 rfl),λ_ _ _ _ _ e=>nO true (e.2.1 rfl),λ_ _ _ _ _ e=>nO true (e.2.1 rfl),λ_ _ _ _ _ e=>nO true (e.1 rfl),λ_ _ _ _ _ e=>nO true (e.1 rfl),λ_ _ _ _ _ e=>nO true (e.2.2.1 rfl),λ_ _ _ _ _ e=>nO true (e.2.1 rfl),λ_ _ _ _ _ e=>nO true (e.2.1 rfl),λ_ _ _ _ _ e=>nO true (e.2.2.1 rfl),λ_ _ _ _ _ e=>nO true (e.2.1 rfl),λ_ _ _ _ _ e=>ae rfl (iD rfl (e.1 rfl) rfl rfl),trivial⟩ ?_
     ·intro W2 hL2;simp only[aU,af.eq,af.ret,lZ];go_frame;clear hex;go_wp2;go_ret;exact⟨by rw[l.out]<;>rfl,b.trans (hL2.below.mono b.size)⟩
   ·have l:Hid (R=true):=by
     have:=XV u.out (λj S=>r.out j oM);exact zH (by rw[hR.out];simpa using this)
    go_wp2;go_ret;exact⟨by rw[l.out]<;>rfl,b⟩
 ·have B:((p.length:Int) != q.length)=true:=by simp;omega
  have l:Hid (R=false):=zH (by rw[hR.out,decide_eq_false_iff_not];intro h;exact u (by rw[h]));clear u
  go_enter Tryz.func45,Tryz.ntmps45
  go_wp2;go_ret;exact⟨by rw[l.out]<;>rfl,Below.refl _ _⟩
theorem FT(b d:Value)(p q:List aj)(w:World)(hp:ai w b p)(hq:ai w d q)(j:∀t∈p,Rk t.2)(k:∀t∈q,Rk t.2)(i:p.length<=100000000) :
  Calls Tryz.prog 13 #[b,d] w (pX w (.bool (decide (p=q)))):=by
 have hc:=λW (hb:Below w.heap.size w W)=>Mh b d p q W (hp.on hb) (hq.on hb) j k i;generalize decide (p=q)=R at *
 go_enter Tryz.func13,Tryz.ntmps13
 go_wp2_with (go_at_call 45;refine(hc _ (Below.refl _ _)).mono ?_;rintro e w1 ⟨rfl,hb1⟩)
 go_ret;exact⟨rfl,hb1⟩
end Go.Proofs.YtopclbeomcggiaaGreat
end
section
namespace Go.Proofs.YtopclbeomcggiaaGreat
open Go.RowKit Q
def Y7 (w:World) (t:aj) (e:Ending) (w':World):Prop:=∃cs,e=.returned (.agg cs.toArray)/\qy w' cs t/\Below w.heap.size w w'
end Go.Proofs.YtopclbeomcggiaaGreat
end
section
namespace Q
open Go Go.RowKit Go.Proofs.YtopclbeomcggiaaGreat
def af.term {g:Option Nat} {T:TypeId} (hT:uT≠T) (t:aj):af (Lr g T):=af.of (λv w=>∃cs:List Value,v=.agg cs.toArray/\qy w cs t) (λ_ _ _ hb=>λ⟨cs,e,h⟩=>⟨cs,e,aL.lr h hb hT⟩)
end Q
namespace Go.Proofs.YtopclbeomcggiaaGreat
open Go.RowKit Q
end Go.Proofs.YtopclbeomcggiaaGreat
end
section
namespace Q
theorem yC{α b:Type}{l:List α}{k:Nat}{t:α}(f:α->b)(h:l[k]?=some t):(l.take (k+1)).map f=(l.take k).map f++[f t]:=by rw[List.take_add_one,h];simp
end Q
namespace Go.Proofs.YtopclbeomcggiaaGreat
open Go.RowKit Q
theorem fI{w:World}{ap:Option Addr}{cp:Nat}{p:List aj}{i:Nat}{s:aj}(hp:ai w (.slice ap p.length cp) p)(h:p[i]?=some s) :
  ∃b o r,ap=some ⟨b,o,none⟩/\gY w r s.2/\bL aJ w b (o+i*8) (bD s.1++r):=by
 obtain⟨b,o,cs,rfl,-,e,d⟩:=hp.get h;obtain⟨r,rfl,j⟩:=e;exact⟨b,o,r,rfl,j,d⟩
end Go.Proofs.YtopclbeomcggiaaGreat
end
section
namespace Q
def PP (l:List aj) (i:Nat):Bool:=match l[i]? with
 | none=>true
 | some t=>t.1.nat&&decide (t.2≠0)&&(match i with|0=>true|j+1=>match l[j]? with|none=>true|some s=>s.1.gt t.1)
def Mi (l:List aj):Bool:=(List.range l.length).all (PP l)
theorem RO{l:List aj}:Mi l=true↔∀i,i<l.length->PP l i=true:=by unfold Mi;rw[List.all_eq_true];simp only[List.mem_range]
theorem Dk{l:List aj}:Mi l=true↔bQ l:=by
 rw[RO];constructor
 ·intro h;refine⟨List.pairwise_iff_getElem.2 λi j b p e=>?_,λt n=>?_⟩
  ·obtain⟨d,rfl⟩:∃d,j=i+1+d:=⟨j - (i+1),oM⟩;clear e
   induction d with
   | zero =>
    have:=h (i+1) oM;simp only[PP,gE (oM:i+1<l.length),gE b,Bool.and_eq_true]at this;exact this.2
   | succ d o =>
    have m:=o oM;have:=h (i+1+d+1) oM;simp only[PP,gE (oM:i+1+d+1<l.length),gE (oM:i+1+d<l.length),Bool.and_eq_true]at this;exact Ex.gt_trans m this.2
  ·obtain⟨i,b⟩:=List.mem_iff_getElem?.1 n;have k:=(gS.1 b).1;have:=h i k;simp only[PP,b,Bool.and_eq_true,decide_eq_true_eq]at this;exact⟨this.1.2,this.1.1⟩
 ·intro hv i b;have hm:=hv.2 l[i] (List.getElem_mem b);simp only[PP,gE b,Bool.and_eq_true,decide_eq_true_eq];refine⟨⟨hm.2,hm.1⟩,?_⟩
  cases i with
  | zero=>rfl
  | succ j =>
   simp only[gE (oM:j<l.length)];exact List.pairwise_iff_getElem.1 hv.1 j (j+1) oM b oM
end Q
namespace Go.Proofs.YtopclbeomcggiaaGreat
open Go.RowKit Q Go.WideMaps Go.Maps
end Go.Proofs.YtopclbeomcggiaaGreat
end
