/- The reference's integers: DivMod, Gcd. -/
import Derived.Test.YtopclbeomcggiaaGreatW25
set_option linter.unusedVariables false
set_option linter.unusedSimpArgs false
set_option maxHeartbeats 16000000
set_option maxRecDepth 100000
section
namespace Go.Proofs.YtopclbeomcggiaaGreat
open Go.RowKit Q
theorem IW(j k:Value)(b l2:List Int)(w:World)(m:cO w j b)(i:cO w k l2)(n2:gL l2)(c1:aF (ah b).natAbs<=CT)(c2:aF (ah l2).natAbs<=CT)(b1:b.length<=600000000)(l:l2.length<=600000000)(hd:1<=ah l2) :
  Calls Tryz.prog 139 #[j,k] w (MV w (ah b/ah l2) (ah b%ah l2)):=by
 match l2,i,n2,c2,l,hd with
 | [],_,_,_,_,h=>simp[ah]at h
 | [d],i,_,_,_,h =>
  have e:ah [d]=d:=by simp[ah]
  rw[e]at h ⊢;exact IM j k b d w m i b1 h
 | x::y::r,i,n2,c2,l,_=>exact IV j k b _ w m i n2 c1 c2 b1 l sM
theorem uB(n1 n2:Bool)(m1 m2:Value)(z1 z2:Int)(w:World)(h1:aZ w n1 m1 z1)(h2:aZ w n2 m2 z2)(c1:aF z1.natAbs<=CT)(c2:aF z2.natAbs<=CT)(hz:z2≠0) :
  Calls Tryz.prog 123 #[.agg #[.bool n1,m1],.agg #[.bool n2,m2]] w (UF w (z1/z2) (z1%z2)):=by
 obtain⟨a1,k1,q1,rfl,-,-⟩:=h1.shape;obtain⟨a2,k2,q2,rfl,-,-⟩:=h2.shape;have x:aF z1.natAbs<=CS:=by have q1:=nQ;have q2:=mM;omega
 have y:aF z2.natAbs<=CS:=by have q1:=nQ;have q2:=mM;omega
 have Z:(jm z2==0)=false:=by unfold jm;rw[if_neg hz];split<;>rfl
 go_enter Tryz.func123,Tryz.ntmps123
 go_upto_region 1 with (fail)
 refine WH λW hb0 B1 B2 B3 B4 aa=>?_;refine aC mixed (none) (0) (fK.none) [.eq (.pointer (some ⟨w.heap.size,1,none⟩)),.eq (.slice a1 k1 q1),.eq (.pointer (some ⟨w.heap.size,0,none⟩)),.eq (.bool n1),.int dM (z1),.eq (.pointer (some ⟨w.heap.size+1,1,none⟩)),.eq (.slice a2 k2 q2),.eq (.pointer (some ⟨w.heap.size+1,0,none⟩)),.eq (.bool n2),.int dM (z2)] [9,10,11,12,13,14,15,16,17,18] rfl rfl rfl rfl ⟨λA _ hA _ _ _=>have h2:A.eval (.tmp 2)=.pointer (some ⟨w.heap.size,0,none⟩):=hA 2 rfl;pZ rfl,λA _ _ hL _ he=>have hb:=hL.below;have h9:=eT 9 (he.1 rfl);have c0:=((B1).on hb).at1 1 _ rfl;pZ rfl,λA _ hA _ _ _=>have h2:A.eval (.tmp 2)=.pointer (some ⟨w.heap.size,0,none⟩):=hA 2 rfl;pZ rfl,λA _ _ hL _ he=>have hb:=hL.below;have h11:=eT 11 (he.1 rfl);have c0:=((B1).on hb).at1 0 _ rfl;pZ rfl,λA _ _ _ hS he=>have hb:=hS rfl;have h10:=eT 10 (he.1 rfl);have h12:=eT 12 (he.2.1 rfl);have hf0:=eF A 103;cP (f:=103) (args:=#[.slice a1 k1 q1,.bool n1]) (MW ((h1.on hb0).on hb) x),λA _ hA _ _ _=>have h3:A.eval (.tmp 3)=.pointer (some ⟨w.heap.size+1,0,none⟩):=hA 3 rfl;pZ rfl,λA _ _ hL _ he=>have hb:=hL.below;have h14:=eT 14 (he.1 rfl);have c0:=((B2).on hb).at1 1 _ rfl;pZ rfl,λA _ hA _ _ _=>have h3:A.eval (.tmp 3)=.pointer (some ⟨w.heap.size+1,0,none⟩):=hA 3 rfl;pZ rfl,λA _ _ hL _ he=>have hb:=hL.below;have h16:=eT 16 (he.1 rfl);have c0:=((B2).on hb).at1 0 _ rfl;pZ rfl,λA _ _ _ hS he=>have hb:=hS rfl;have h15:=eT 15 (he.1 rfl);have h17:=eT 17 (he.2.1 rfl);have hf0:=eF A 103;cP (f:=103) (args:=#[.slice a2 k2 q2,.bool n2]) (MW ((h2.on hb0).on hb) y),trivial⟩ ?_
 ·intro W2 hL2;have hb2:=hL2.below;simp only[aT,af.eq,af.ret,af.int,af.lim,af.of,lZ];rintro _ ⟨n3,m3,rfl,i3⟩ _ ⟨n4,m4,rfl,i4⟩;obtain⟨a3,k3,q3,rfl,-,-⟩:=i3.shape;obtain⟨a4,k4,q4,rfl,-,-⟩:=i4.shape;go_frame;have C1:=B1.on hb2;have C2:=B2.on hb2;have C3:=B3.on hb2;have C4:=B4.on hb2;have hb02:=hb0.trans (hb2.mono hb0.size);clear B1 B2 B3 B4 hb0 hb2 hL2
  go_upto_region 2 with (first
   | (refine az rfl _ (.tmp 2) (.tmp 13) rfl _ _ _ _ rfl rfl C1 rfl aK i3.ones ?_;intro w3 R3 gr3;have D2:=C2.grown gr3 oM;have D3:=C3.grown gr3 oM;have D4:=C4.grown gr3 oM;have j3:=i3.stored gr3 C1 dM;have j4:=i4.stored gr3 C1 dM;have hb3:=hb02.trans ((aH gr3 (Nat.le_of_lt C1.lt) (nL _)).mono oM))
   | (refine az rfl _ (.tmp 3) (.tmp 18) rfl _ _ _ _ rfl rfl D2 rfl aK j4.ones ?_;intro w4 R4 gr4;have E1:=R3.grown gr4 oM;have E3:=D3.grown gr4 oM;have E4:=D4.grown gr4 oM;have j:=j3.stored gr4 D2 dM;have i:=j4.stored gr4 D2 dM;have hb4:=hb3.trans ((aH gr4 (Nat.le_of_lt D2.lt) (nL _)).mono oM)))
  clear C1 C2 C3 C4 D2 D3 D4 R3 gr3 gr4 i3 i4 j3 j4 hb3 hb02;have x1:=R4.at1 0 _ rfl;have x2:=R4.at1 1 _ rfl;obtain⟨l3,ao3,cap3,es3,hc3,b3,u3,L3,mm3,nn3,hp3,e3⟩:=j.openS x;obtain⟨l4,ao4,cap4,es4,hc4,b4,u4,L4,mm4,nn4,hp4,e4⟩:=i.openS y;obtain⟨d,hlv4⟩:∃d,ah l4=d:=⟨_,rfl⟩;have hcl4:aF (ah l4).natAbs<=CT:=by rw[e4,fe]at c2;exact c2
  have hd1:1<=d:=by have h0:=aU L4;have h1:ah l4≠0:=λh=>hz (by rw[e4,h];cases n4<;>rfl);omega
  rw[hlv4]at e4;clear hp3 hp4 hc3 hc4 mm3 mm4 L4 es3 es4 c2 y;have hq0:ah l3=(ah l3/d)*d+ah l3%d:=by have:=Int.mul_ediv_add_emod (ah l3) d;rw[Int.mul_comm];omega
  have hr0:0<=ah l3%d:=Int.emod_nonneg _ oM;have hr1:ah l3%d<d:=Int.emod_lt_of_pos _ oM;have hlq0:0<=ah l3/d:=Int.ediv_nonneg (aU L3) oM;have D:(ah l3/d).natAbs<=(ah l3).natAbs:=Int.natAbs_ediv_le_natAbs _ _;have hcl3:aF (ah l3).natAbs<=CT:=by rw[e3,fe]at c1;exact c1
  have L:aF (ah l3/d).natAbs<=CS:=by have:=iT D hcl3;have q1:=nQ;have q2:=mM;omega
  have n:aF d.natAbs<=CS:=by rw[<-hlv4];have q1:=nQ;have q2:=mM;omega
  have M:aF (ah l3%d).natAbs<=CS:=iT (oM:(ah l3%d).natAbs<=d.natAbs) n;have l:=λh=>MM (n1:=n3) (n2:=n4) hq0 hr0 hr1 h;have o:=λh=>Qt (n2:=n4) hq0 h hr1;have G:=λu (hb:Below w4.heap.size w4 u)=>(by have:=IW _ _ l3 l4 u (u3.on hb) (u4.on hb) nn4 hcl3 hcl4 oM oM oM;rw[hlv4]at this;exact this:Calls Tryz.prog 139 _ u (MV u (ah l3/d) (ah l3%d)));replace hq0:=zH hq0;rw[<-e3,<-e4]at l;replace hcl3:=zH hcl3;replace D:=zH D;replace hlv4:=zH hlv4;replace e3:=zH e3;replace e4:=zH e4;generalize ah l3/d=Q at *;generalize ah l3%d=R at *;have y1:=E1.at1 0 _ rfl;have y2:=E1.at1 1 _ rfl
  go_upto_region 4 with (go_at_call 100;refine(pG _ _ _ w4 i).mono ?_;rintro e w5 ⟨rfl,hb5⟩)
  replace E1:=E1.on hb5;replace R4:=R4.on hb5;replace E3:=E3.on hb5;replace E4:=E4.on hb5;replace hb4:=hb4.trans (hb5.mono hb4.size);replace j:=j.on hb5;replace i:=i.on hb5;have hdv5:=G w5 hb5;clear x1 x2 y1 y2 G hb5 u3 u4 Z;have x1:=R4.at1 0 _ rfl;have x2:=R4.at1 1 _ rfl;have y1:=E1.at1 0 _ rfl;have y2:=E1.at1 1 _ rfl
  go_upto_region 5 with (go_at_call 139;refine hdv5.mono ?_;rintro e w6 ⟨n5,m5,n6,m6,rfl,i5,i6,hb6⟩;obtain⟨a5,k5,q5,rfl,-,-⟩:=i5.shape;obtain⟨a6,k6,q6,rfl,-,-⟩:=i6.shape)
  clear hdv5;have hlt6:=E4.lt;refine xc λu hb7 r s a9=>?_;have k:=hb6.trans (hb7.mono hb6.size);have hlt7:w.heap.size+1+1+1<w6.heap.size:=by have:=hb6.size;omega
  replace E1:=E1.on k;replace R4:=R4.on k;replace E3:=E3.on k;replace E4:=E4.on k;replace hb4:=hb4.trans (k.mono hb4.size);replace j:=j.on k;replace i:=i.on k;replace i5:=i5.on hb7;replace i6:=i6.on hb7;generalize w6.heap.size=g at *;clear x1 x2 y1 y2 hb6 hb7 k;obtain⟨t,q⟩:∃t:Bool,t=(n3&&decide (0<R)):=⟨_,rfl⟩;replace q:=zH q;replace l:=zH l;replace o:=zH o;have y1:=E1.at1 0 _ rfl;have a0:=s.at1 0 _ rfl;have a8:=s.at1 1 _ rfl
  go_cut [34,35,36,37,38] (λv1 v2 v3 v4 v5 wc=>v5=.bool t/\Below u.heap.size u wc)
  case first =>
   cases n3
   ·go_wp2;go_meet
    case rel=>exact⟨by rw[q.out];rfl,Below.refl _ _⟩
   ·have p:=pG _ _ _ u i6;by_cases hR:0<R
    ·have e:jm R=1:=by unfold jm;rw[if_neg oM,if_neg oM]
     rw[e]at p;have F:Hid (t=true):=zH (by rw[q.out];simpa using hR)
     go_wp2_with (go_at_call 100;refine p.mono ?_;rintro e w7 ⟨rfl,hb7⟩)
     go_meet
     case rel=>exact⟨by rw[F.out]<;>rfl,hb7⟩
    ·have e:jm R=0:=by unfold jm;rw[if_pos oM]
     rw[e]at p;have F:Hid (t=false):=zH (by rw[q.out];simpa using hR)
     go_wp2_with (go_at_call 100;refine p.mono ?_;rintro e w7 ⟨rfl,hb7⟩)
     go_meet
     case rel=>exact⟨by rw[F.out]<;>rfl,hb7⟩
  case rest =>
   obtain⟨rfl,b⟩:=hcut;replace E1:=E1.on b;replace R4:=R4.on b;replace E3:=E3.on b;replace E4:=E4.on b;replace r:=r.on b;replace s:=s.on b;replace i5:=i5.on b;replace i6:=i6.on b;replace j:=j.on b;replace i:=i.on b;replace hb4:=hb4.trans (b.mono hb4.size);clear y1 a0 a8 b
   go_upto_if 38 with (fail)
   go_cut [] (λwc=>Below w.heap.size w wc/\Hid (Blk wc w.heap.size 39 [.bool n3,.slice a3 k3 q3])/\Hid (Blk wc (w.heap.size+1) 39 [.bool n4,.slice a4 k4 q4]) /\
    Hid (Blk wc (w.heap.size+1+1) 39 [.bool false,.slice none 0 0])/\Hid (Blk wc (w.heap.size+1+1+1) 39 [.bool false,.slice none 0 0])/\Hid (DM g (if n3 != n4 then -(z1/z2)else z1/z2) (z1%z2) wc))
   case first =>
    cases t
    ·go_wp2;go_meet
     case rel =>
      have hz:n3=false\/R=0:=by
       have:=q.out;cases n3
       ·exact .inl rfl
       ·right;rw[Bool.true_and]at this;have:=of_decide_eq_false this.symm;omega
      have hm:=l.out hz;exact⟨hb4,zH E1,zH R4,zH E3,zH E4,zH ⟨_,_,_,_,_,_,_,_,r,s,by rw[hm.1];exact i5,by rw[hm.2];exact i6⟩⟩
    ·have hn3:n3=true:=EQ q.out;subst hn3;have J:0<R:=by have h:=q.out;rw[Bool.true_and]at h;exact of_decide_eq_true h.symm
     have hm:=o.out J;rw[<-e3.out,<-e4.out]at hm;replace hm:=zH hm
     have X:∀W,Below wc.heap.size wc W->Calls Tryz.prog 103 #[.slice a4 k4 q4,.bool false] W (kY W d):=λW hb=>by have:=zb (i.on hb) (by rw[e4.out,fe];exact n);rwa[e4.out,fe,Int.natAbs_of_nonneg oM]at this
     go_upto_region 6 with (fail)
     refine aC mixed (none) (0) (fK.none) [.eq (.agg #[.bool n5,.slice a5 k5 q5]),.int dM (1),.int dM ((Q+1))] [39,40,41] rfl rfl rfl rfl ⟨λA _ hA hL _ _=>have hb:=hL.below;have h7:A.eval (.tmp 7)=.pointer (some ⟨g,0,none⟩):=hA 7 rfl;have c0:=((r).on hb).at1 0 _ rfl;have c1:=((r).on hb).at1 1 _ rfl;pZ rfl,λA _ _ _ hS _=>have hb:=hS rfl;have hf0:=eF A 70;have hc0:=eC A (.int .i64 1);cP (f:=70) (args:=#[(.int .i64 1)]) (AR 1 _ oM oM),?_,trivial⟩ ?_
     ·intro A w1 hA hL hS he;have hb:=hS rfl;have h39:=eT 39 (he.1 rfl);obtain⟨v40,h40,f40⟩:=fT 40 (he.2.1 rfl);have hf0:=eF A 108;refine ae rfl ?_;refine dI (f:=108) (args:=#[.agg #[.bool n5,.slice a5 k5 q5],v40]) rfl rfl ?_ ?_
      ·exact gZ
      ·obtain⟨n40,m40,rfl,i40⟩:=f40;refine(xC _ _ _ _ _ _ _ (i5.on hb) i40 L dM).mono ?_;rintro e w' ⟨neg,m,rfl,S,C⟩;exact⟨_,rfl,C,neg,m,rfl,S⟩
     ·intro w8 hL8;have hb8:=hL8.below;simp only[aT,af.eq,af.ret,af.int,af.lim,af.of,lZ];rintro _ - _ ⟨n7,m7,rfl,i7⟩;obtain⟨a7,k7,q7,rfl,-,-⟩:=i7.shape;go_frame;have Bq8:=r.on hb8
      go_upto_region 7 with (refine az rfl _ (.tmp 7) (.tmp 41) rfl _ _ _ _ rfl rfl Bq8 rfl aK i7.ones ?_;intro w9 R9 gr9)
      have hb89:Below w.heap.size w w9:=hb4.trans ((hb8.mono hb4.size).trans ((aH gr9 (Nat.le_of_lt Bq8.lt) (nL _)).mono oM));have F1:=(E1.on hb8).grown gr9 oM;have F2:=(R4.on hb8).grown gr9 oM;have F3:=(E3.on hb8).grown gr9 oM;have F4:=(E4.on hb8).grown gr9 oM;have Fr:=(s.on hb8).grown gr9 oM;have j7:=i7.stored gr9 Bq8 dM;have j6:=(i6.on hb8).stored gr9 Bq8 dM;have j4:=(i.on hb8).stored gr9 Bq8 dM
      have hma9:∀W,Below w9.heap.size w9 W->Calls Tryz.prog 103 #[.slice a4 k4 q4,.bool false] W (kY W d):=λW hb=>by have:=zb (j4.on hb) (by rw[e4.out,fe];exact n);rwa[e4.out,fe,Int.natAbs_of_nonneg oM]at this
      clear E1 R4 E3 E4 r s i7 i6 i5 i j X hb8 hL8 Bq8 gr9;refine aC mixed (none) (0) (fK.none) [.eq (.pointer (some ⟨w.heap.size+1,1,none⟩)),.eq (.slice a4 k4 q4),.int dM (d),.eq (.agg #[.bool n6,.slice a6 k6 q6]),.int dM ((d-R))] [42,43,44,45,46] rfl rfl rfl rfl ⟨λA _ hA _ _ _=>have h3:A.eval (.tmp 3)=.pointer (some ⟨w.heap.size+1,0,none⟩):=hA 3 rfl;pZ rfl,λA _ _ hL _ he=>have hb:=hL.below;have h42:=eT 42 (he.1 rfl);have c0:=((F2).on hb).at1 1 _ rfl;pZ rfl,λA _ _ _ hS he=>have hb:=hS rfl;have h43:=eT 43 (he.1 rfl);have hf0:=eF A 103;have hc0:=eC A (.bool false);cP (f:=103) (args:=#[.slice a4 k4 q4,(.bool false)]) (hma9 _ hb),λA _ hA hL _ _=>have hb:=hL.below;have h8:A.eval (.tmp 8)=.pointer (some ⟨g+1,0,none⟩):=hA 8 rfl;have c0:=((Fr).on hb).at1 0 _ rfl;have c1:=((Fr).on hb).at1 1 _ rfl;pZ rfl,?_,trivial⟩ ?_
      ·intro A w1 hA hL hS he;have hb:=hS rfl;obtain⟨v44,h44,f44⟩:=fT 44 (he.1 rfl);have h45:=eT 45 (he.2.1 rfl);have hf0:=eF A 140;refine ae rfl ?_;refine dI (f:=140) (args:=#[v44,.agg #[.bool n6,.slice a6 k6 q6]]) rfl rfl ?_ ?_
       ·exact gZ
       ·obtain⟨n44,m44,rfl,i44⟩:=f44;refine(IK _ _ _ _ _ _ _ i44 (j6.on hb) n M).mono ?_;rintro e w' ⟨neg,m,rfl,S,C⟩;exact⟨_,rfl,C,neg,m,rfl,S⟩
      ·intro w10 hL10;have hb10:=hL10.below;simp only[aT,af.eq,af.ret,af.int,af.lim,af.of,lZ];rintro _ - _ ⟨n11,m11,rfl,i11⟩;obtain⟨a11,k11,q11,rfl,-,-⟩:=i11.shape;go_frame;have Br10:=Fr.on hb10
       go_wp2_with (refine az rfl _ (.tmp 8) (.tmp 46) rfl _ _ _ _ rfl rfl Br10 rfl aK i11.ones ?_;intro w11 R11 gr11)
       have hs10:=Br10.lt;go_meet
       case rel =>
        have hm:=hm.out;refine⟨hb89.trans ((hb10.mono hb89.size).trans ((aH gr11 (Nat.le_of_lt hs10) (nL _)).mono oM)),zH ((F1.on hb10).grown gr11 oM),zH ((F2.on hb10).grown gr11 oM),zH ((F3.on hb10).grown gr11 oM),zH ((F4.on hb10).grown gr11 oM),zH ⟨_,_,_,_,_,_,_,_,(R9.on hb10).grown gr11 oM,R11,?_,?_⟩⟩
        ·rw[hm.1];exact(j7.on hb10).stored gr11 Br10 dM
        ·rw[hm.2];exact i11.stored gr11 Br10 dM
   case rest =>
    obtain⟨hb,hB1,hB2,hB3,hB4,B⟩:=hcut;obtain⟨nq1,aq1,kq1,cq1,nr1,ar1,kr1,cr1,Bq1,Br1,hiq1,hir1⟩:=B.out;have x1:=hB1.out.at1 0 _ rfl;have x2:=hB2.out.at1 0 _ rfl;clear E1 R4 E3 E4 r s i5 i6 j i hb4 l o q;have hlt1:=Br1.lt
    go_upto_if 51 with (fail)
    clear x1 x2 hB1 hB2
    go_cut [] (λwd=>Below w.heap.size w wd/\Hid (Blk wd (w.heap.size+1+1) 39 [.bool false,.slice none 0 0])/\Hid (Blk wd (w.heap.size+1+1+1) 39 [.bool false,.slice none 0 0])/\Hid (DM g (z1/z2) (z1%z2) wd))
    case first =>
     obtain⟨I,hd⟩:∃I:Bool,I=(n3 != n4):=⟨_,rfl⟩;have N:(!(n3==n4))=I:=by rw[hd];rfl
     rw[<-hd]at hiq1;rw[N];have u1:=Bq1.at1 0 _ rfl;have u2:=Bq1.at1 1 _ rfl;have Y:aF (-(z1/z2)).natAbs<=CS:=by rw[Int.natAbs_neg];exact iT (Int.natAbs_ediv_le_natAbs z1 z2) x
     cases I
     ·go_wp2;go_meet
      case rel=>exact⟨hb,hB3,hB4,zH ⟨_,_,_,_,_,_,_,_,Bq1,Br1,hiq1,hir1⟩⟩
     ·rw[if_pos rfl]at hiq1
      go_wp2_with (first
       | (go_at_call 124;refine(xz _ _ _ _ hiq1 Y).mono ?_;rintro e w2 hret;obtain⟨nq2,aq2,kq2,capq2,rfl,hiq2,hb2⟩:=eD hret;clear hret;rw[Int.neg_neg]at hiq2)
       | (refine az rfl _ (.tmp 7) (.tmp 53) rfl _ _ _ _ rfl rfl (Bq1.on hb2) rfl aK hiq2.ones ?_;intro w3 R3 gr3))
      have z:=Bq1.on hb2;go_meet
      case rel=>exact⟨hb.trans ((hb2.mono hb.size).trans ((aH gr3 (Nat.le_of_lt z.lt) (nL g)).mono oM)),zH ((hB3.out.on hb2).grown gr3 oM),zH ((hB4.out.on hb2).grown gr3 oM),zH ⟨_,_,_,_,_,_,_,_,R3,(Br1.on hb2).grown gr3 oM,hiq2.stored gr3 z dM,(hir1.on hb2).stored gr3 z dM⟩⟩
    case rest =>
     obtain⟨hb,hB3,hB4,B⟩:=hcut;obtain⟨nq1,aq1,kq1,cq1,nr1,ar1,kr1,cr1,Bq1,Br1,hiq1,hir1⟩:=B.out
     go_upto_region 10 with (fail)
     have y1:=Bq1.at1 0 _ rfl;have y2:=Bq1.at1 1 _ rfl;have y3:=Br1.at1 0 _ rfl;have y4:=Br1.at1 1 _ rfl;have s1:=hB3.out.at1 0 _ rfl;have s2:=hB3.out.at1 1 _ rfl;have s3:=hB4.out.at1 0 _ rfl;have s4:=hB4.out.at1 1 _ rfl;have f1:=hB3.out.frozen 0;have f2:=hB3.out.frozen 1;have f3:=hB4.out.frozen 0;have f4:=hB4.out.frozen 1
     go_region
     obtain⟨R1,gr1⟩:=dW [.bool nq1,.slice aq1 kq1 cq1] 0 wc _ hB3.out sM;obtain⟨R2,gr2⟩:=dW [.bool nr1,.slice ar1 kr1 cr1] 0 _ _ (hB4.out.grown gr1 oM) sM;have hR1:=R1.grown gr2 oM;have hiq2:=(hiq1.stored gr1 hB3.out dM).stored gr2 (hB4.out.grown gr1 oM) dM;have hir2:=(hir1.stored gr1 hB3.out dM).stored gr2 (hB4.out.grown gr1 oM) dM;have hb3:Below w.heap.size w _:=(hb.trans ((aH gr1 (Nat.le_of_lt hB3.out.lt) (nL _)).mono oM)).trans ((aH gr2 (Nat.le_of_lt (hB4.out.grown gr1 oM).lt) (nL _)).mono oM);go_wp2;exact bodyPost_ret (xq rfl _ _ _ _ Tryz.underlying39 rfl rfl rfl hR1 R2 aK aK) rfl ⟨_,_,_,_,rfl,hiq2,hir2,oZ hb3 1⟩
theorem QL(n1 n2:Bool)(m1 m2:Value)(z1 z2:Int)(w:World)(h1:aZ w n1 m1 z1)(h2:aZ w n2 m2 z2)(c1:aF z1.natAbs<=CT)(c2:aF z2.natAbs<=CT) :
  Calls Tryz.prog 101 #[.agg #[.bool n1,m1],.agg #[.bool n2,m2]] w (kY w (Int.gcd z1 z2)):=by
 obtain⟨a1,k1,q1,rfl,-,-⟩:=h1.shape;obtain⟨a2,k2,q2,rfl,-,-⟩:=h2.shape
 go_enter Tryz.func101,Tryz.ntmps101
 go_upto_region 1 with (fail)
 refine rQ λW hb0 B1 B2 B3 F=>?_
 have j:Hid (∃x y,uk w.heap.size x W/\uk (w.heap.size+1) y W/\aF x.natAbs<=CT/\aF y.natAbs<=CT/\Int.gcd x y=Int.gcd z1 z2/\y.natAbs=z2.natAbs) :=
  zH ⟨z1,z2,⟨_,_,_,_,B1,h1.on hb0⟩,⟨_,_,_,_,B2,h2.on hb0⟩,c1,c2,rfl,rfl⟩
 generalize z2.natAbs=n0 at j;clear B1 B2
 go_loopg [] n0 (λn wr=>Hid (∃x y,uk w.heap.size x wr/\uk (w.heap.size+1) y wr/\aF x.natAbs<=CT/\aF y.natAbs<=CT/\Int.gcd x y=Int.gcd z1 z2/\y.natAbs=n)/\Below w.heap.size w wr/\Hid (Blk wr (w.heap.size+1+1) 39 [.bool false,.slice none 0 0]))
 case atStart=>exact⟨j,hb0,zH B3⟩
 case round =>
  clear j hb0 B3 F;obtain⟨j,hb,hB⟩:=hrel;obtain⟨x,y,⟨nx,X,Z,Y,b,G⟩,⟨S,J,N,L,d,l⟩,bx,o,hg,D⟩:=j.out;clear j;replace hg:=zH hg;replace D:=zH D;have u1:=b.at1 0 _ rfl;have u2:=b.at1 1 _ rfl;have v1:=d.at1 0 _ rfl;have v2:=d.at1 1 _ rfl;have m:=pG _ _ _ wr l;by_cases s:y=0
  ·subst s;have hg0:Int.gcd z1 z2=x.natAbs:=by have:=hg.out;simpa using this.symm
   have q:=λz (B:Below wr.heap.size wr z)=>zb (G.on B) (by have q1:=nQ;have q2:=mM;omega);rw[<-hg0]at q;replace hg0:=zH hg0;rw[show jm 0=0 from rfl]at m
   go_upto_region 4 with (go_at_call 100;refine m.mono ?_;rintro e w2 ⟨rfl,hb2⟩)
   have Bx2:=b.on hb2;have hB2:=hB.out.on hb2;clear u1 u2 v1 v2;have u1:=Bx2.at1 0 _ rfl;have u2:=Bx2.at1 1 _ rfl
   go_wp2_with (first
    | (go_at_call 103;refine(q _ hb2).mono ?_;rintro e w3 hret;obtain⟨n3,a3,k3,c3,rfl,i3,hb3⟩:=eD hret;clear hret;have hB3:=hB2.on hb3)
    | (refine az rfl _ (.tmp 4) (.tmp 22) rfl _ _ _ _ rfl rfl hB3 rfl aK i3.ones ?_;intro w4 R M))
   exact dH rfl rfl rfl R Tryz.underlying39 rfl aK (jd hb (hb2.trans (hb3.mono hb2.size)) oM hB3 i3 M)
  ·have hs0:(jm y != 0)=true:=by unfold jm;rw[if_neg s];split<;>rfl
   generalize jm y=sy at hs0 m
   go_upto_region 2 with (go_at_call 100;refine m.mono ?_;rintro e w2 ⟨rfl,hb2⟩)
   have p:=uB _ _ _ _ _ _ w2 (G.on hb2) (l.on hb2) bx o s
   replace b:=b.on hb2;replace d:=d.on hb2;have i:=hB.out.on hb2;replace l:=l.on hb2;replace hb:=hb.trans (hb2.mono hb.size);clear u1 u2 v1 v2 hs0 hb2 hB;have u1:=b.at1 0 _ rfl;have u2:=b.at1 1 _ rfl;have v1:=d.at1 0 _ rfl;have v2:=d.at1 1 _ rfl
   go_upto_region 3 with (go_at_call 123;refine p.mono ?_;rintro e w3 ⟨n5,m5,n6,m6,rfl,i5,i6,hb3⟩;obtain⟨a5,k5,q5,rfl,-,-⟩:=i5.shape;obtain⟨a6,k6,q6,rfl,-,-⟩:=i6.shape)
   clear p u1 u2 v1 v2;replace b:=b.on hb3;replace d:=d.on hb3;replace i:=i.on hb3;replace l:=l.on hb3;replace hb:=hb.trans (hb3.mono hb.size);refine xc λz hb7 I u r=>?_;have hlt3:w.heap.size+1+1<w3.heap.size:=i.lt;replace b:=b.on hb7;replace d:=d.on hb7;replace i:=i.on hb7;replace l:=l.on hb7;replace i6:=i6.on hb7;replace hb:=hb.trans (hb7.mono hb.size);clear i5 hb3 hb7 r;generalize w3.heap.size=g at *;have y1:=d.at1 0 _ rfl;have y2:=d.at1 1 _ rfl;have y3:=u.at1 0 _ rfl;have y4:=u.at1 1 _ rfl;have s1:=b.at1 0 _ rfl;have s2:=b.at1 1 _ rfl;have f1:=b.frozen 0;have f2:=b.frozen 1;have f3:=d.frozen 0;have f4:=d.frozen 1
   go_region
   obtain⟨R1,gr1⟩:=dW [.bool S,.slice J N L] 0 z _ b sM;have k:=d.grown gr1 oM;obtain⟨R2,gr2⟩:=dW [.bool n6,.slice a6 k6 q6] 0 _ _ k sM;have hR1:=R1.grown gr2 oM;have iy2:=(l.stored gr1 b dM).stored gr2 k dM;have i62:=(i6.stored gr1 b dM).stored gr2 k dM;have hBB2:=(i.grown gr1 oM).grown gr2 oM;have hb3:Below w.heap.size w _:=(hb.trans ((aH gr1 (Nat.le_of_lt b.lt) (nL _)).mono oM)).trans ((aH gr2 (Nat.le_of_lt k.lt) (nL _)).mono oM);clear R1 k gr1 gr2 s1 s2 y1 y2 y3 y4 f1 f2 f3 f4 b d I u l i6 i hb;have hm0:0<=x%y:=Int.emod_nonneg _ s
   have hm1:(x%y).natAbs<y.natAbs:=by
    rcases Int.lt_or_gt_of_ne s with h|h
    ·have:=Int.emod_lt_of_pos x (oM:0 < -y);rw[Int.emod_neg]at this;omega
    ·have:=Int.emod_lt_of_pos x h;omega
   have C:Int.gcd y (x%y)=Int.gcd x y:=by have:=Ij (x/y) y (x%y);rw[<-this,Int.mul_comm,Int.mul_ediv_add_emod]
   go_wp2;go_roundg ((x%y).natAbs)
   case measure=>have:=D.out;omega
   case rel=>exact⟨zH ⟨y,x%y,⟨_,_,_,_,hR1.drew,iy2.on (oZ (Below.refl _ _) 1)⟩,⟨_,_,_,_,R2.drew,i62.on (oZ (Below.refl _ _) 1)⟩,o,iT (Nat.le_of_lt hm1) o,by rw[C,hg.out],rfl⟩,oZ hb3 1,zH hBB2.drew⟩
def Rs (q:Rat):Prop:=aF q.den<=7900000000/\aF q.num.natAbs<=7900000000
theorem Rs.rk{q:Rat}(h:Rs q):Rk q:=⟨by have:=h.1;unfold jl;omega,by have:=h.2;unfold jl;omega⟩
theorem Rs.num{q:Rat}(h:Rs q):aF q.num.natAbs<=CT:=by have:=h.2;have:=mM;omega
theorem Rs.den{q:Rat}(h:Rs q):aF ((q.den:Int)).natAbs<=CT:=by have:=h.1;have:=mM;rw[Int.natAbs_natCast];omega
theorem Kj{x:Int}(h:aF x.natAbs<=CT):aF x.natAbs<=CS:=by have:=mM;have:=nQ;omega
theorem Vx{x:Int}(h:aF x.natAbs<=CT):aF x.natAbs<=CT:=h
theorem QM{p q:Rat}(h:Rs p)(b:Rs q):aF (p.num*(q.den:Int)).natAbs<=CX:=by have:=gB p.num.natAbs q.den;have:=h.2;have:=b.1;have:=MS;rw[Int.natAbs_mul,Int.natAbs_natCast];omega
theorem UK{p q:Rat}(h:Rs p)(b:Rs q):aF ((p.den:Int)*q.den).natAbs<=CT/\(p.den:Int)*q.den≠0:=by obtain⟨e,d⟩:=BZ h.rk b.rk;refine⟨?_,d⟩;have:=gB p.den q.den;have:=h.1;have:=b.1;have:=mM;rw[Int.natAbs_mul,Int.natAbs_natCast,Int.natAbs_natCast];omega
theorem M9(n1 n2:Bool)(m1 m2:Value)(z1 z2:Int)(w:World)(h1:aZ w n1 m1 z1)(h2:aZ w n2 m2 z2)(c1:aF z1.natAbs<=CT)(c2:aF z2.natAbs<=CT)(hz:z2≠0) :
  Calls Tryz.prog 104 #[.agg #[.bool n1,m1],.agg #[.bool n2,m2]] w (AQ w (Rat.divInt z1 z2) 0):=by
 obtain⟨a1,k1,q1,rfl,-,-⟩:=h1.shape;obtain⟨a2,k2,q2,rfl,-,-⟩:=h2.shape;obtain⟨x,d,hd,J,ex,k,l,D,n⟩:=Ce z1 z2 hz;have G:(jm z2==0)=false:=by unfold jm;rw[if_neg hz];split<;>rfl
 generalize Rat.divInt z1 z2=Qr at *;have B:=Kj c1;have C:=Kj c2;rw[<-J]at c2;rw[<-ex]at c1;replace D:=zH D;replace n:=zH n
 go_enter Tryz.func104,Tryz.ntmps104
 go_upto_region 1 with (fail)
 refine rQ λW hb0 B1 B2 B3 M=>?_;have y1:=B2.at1 0 _ rfl;have y2:=B2.at1 1 _ rfl
 go_upto_region 3 with (go_at_call 100;refine(pG _ _ _ W (h2.on hb0)).mono ?_;rintro e w0 ⟨rfl,j⟩)
 replace B1:=B1.on j;replace B2:=B2.on j;replace B3:=B3.on j;replace hb0:=hb0.trans (j.mono hb0.size);clear y1 y2 j G;have y1:=B2.at1 0 _ rfl;have y2:=B2.at1 1 _ rfl
 go_upto_if 19 with (go_at_call 100;refine(pG _ _ _ w0 (h2.on hb0)).mono ?_;rintro e w1 ⟨rfl,hb1⟩)
 replace B1:=B1.on hb1;replace B2:=B2.on hb1;replace B3:=B3.on hb1;replace hb0:=hb0.trans (hb1.mono hb0.size);clear y1 y2 hb1
 go_cut [] (λwc=>Below w.heap.size w wc/\Hid (uk w.heap.size x wc)/\Hid (uk (w.heap.size+1) d wc)/\Hid (Blk wc (w.heap.size+1+1) 41 [.bool false,.slice none 0 0,.bool false,.slice none 0 0]))
 case first =>
  rcases vQ z2 with ⟨h,F⟩|⟨h,-⟩|⟨h,F⟩
  ·obtain⟨rfl,rfl⟩:=k h;rw[F];replace h1:=h1.on hb0;replace h2:=h2.on hb0;clear k l
   go_upto_region 4 with (fail)
   refine aC mixed (none) (0) (fK.none) [.eq (.agg #[.bool n1,.slice a1 k1 q1]),.int dM ((-z1)),.eq (.agg #[.bool n2,.slice a2 k2 q2]),.int dM ((-z2))] [20,21,22,23] rfl rfl rfl rfl ⟨λA _ hA hL _ _=>have hb:=hL.below;have h2:A.eval (.tmp 2)=.pointer (some ⟨w.heap.size,0,none⟩):=hA 2 rfl;have c0:=((B1).on hb).at1 0 _ rfl;have c1:=((B1).on hb).at1 1 _ rfl;pZ rfl,λA _ _ _ hS he=>have hb:=hS rfl;have h20:=eT 20 (he.1 rfl);have hf0:=eF A 124;cP (f:=124) (args:=#[.agg #[.bool n1,.slice a1 k1 q1]]) (xz _ _ _ _ (h1.on hb) B),λA _ hA hL _ _=>have hb:=hL.below;have h3:A.eval (.tmp 3)=.pointer (some ⟨w.heap.size+1,0,none⟩):=hA 3 rfl;have c0:=((B2).on hb).at1 0 _ rfl;have c1:=((B2).on hb).at1 1 _ rfl;pZ rfl,λA _ _ _ hS he=>have hb:=hS rfl;have h22:=eT 22 (he.1 rfl);have hf0:=eF A 124;cP (f:=124) (args:=#[.agg #[.bool n2,.slice a2 k2 q2]]) (xz _ _ _ _ (h2.on hb) C),trivial⟩ ?_
   ·intro w2 hL2;have hb2:=hL2.below;simp only[aT,af.eq,af.int,af.of,lZ];rintro _ ⟨n3,m3,rfl,i3⟩ _ ⟨n4,m4,rfl,i4⟩;obtain⟨a3,k3,q3,rfl,-,-⟩:=i3.shape;obtain⟨a4,k4,q4,rfl,-,-⟩:=i4.shape;go_frame;refine az rfl _ (.tmp 2) (.tmp 21) rfl _ _ _ _ rfl rfl (B1.on hb2) rfl aK i3.ones ?_;intro w3 R3 gr3;have hB2:=(B2.on hb2).grown gr3 oM;have j4:=i4.stored gr3 (B1.on hb2) dM;go_frame;refine az rfl _ (.tmp 3) (.tmp 23) rfl _ _ _ _ rfl rfl hB2 rfl aK j4.ones ?_;intro w4 R4 gr4;have L:=B1.lt;have hlt2:=(B1.on hb2).lt;have hlt3:=hB2.lt;go_wp2;go_meet
    case rel=>exact⟨hb0.trans ((hb2.mono hb0.size).trans (((aH gr3 (Nat.le_of_lt hlt2) (nL _))).trans ((aH gr4 oM oM)))),zH ⟨_,_,_,_,R3.grown gr4 oM,(i3.stored gr3 (B1.on hb2) dM).stored gr4 hB2 dM⟩,zH ⟨_,_,_,_,R4,j4.stored gr4 hB2 dM⟩,zH (((B3.on hb2).grown gr3 oM).grown gr4 oM)⟩
  ·omega
  ·obtain⟨rfl,rfl⟩:=l h;rw[F];go_wp2;go_meet
   case rel=>exact⟨hb0,zH ⟨_,_,_,_,B1,h1.on hb0⟩,zH ⟨_,_,_,_,B2,h2.on hb0⟩,zH B3⟩
 case rest =>
  obtain⟨hb,hB1,hB2,hB3⟩:=hcut;obtain⟨nx,X,kx,cx,m,s⟩:=hB1.out;obtain⟨nd,N,kd,Y,Bd,id⟩:=hB2.out;have u1:=m.at1 0 _ rfl;have u2:=m.at1 1 _ rfl;have v1:=Bd.at1 0 _ rfl;have v2:=Bd.at1 1 _ rfl;clear B1 B2 B3 k l
  go_upto_region 6 with (go_at_call 101;refine(QL _ _ _ _ _ _ _ s id (Vx c1) (Vx c2)).mono ?_;rintro e w2 hret;obtain⟨ng,S,kg,Z,rfl,p,hb2⟩:=eD hret;clear hret)
  refine jb λW2 hb3 o hsz2=>?_;have b:=hb2.trans (hb3.mono hb2.size);replace m:=m.on b;replace Bd:=Bd.on b;replace s:=s.on b;replace id:=id.on b;replace p:=p.on hb3;have i:=hB3.out.on b;replace hb:=hb.trans (b.mono hb.size);have hlt2:w.heap.size+1+1<w2.heap.size:=by have:=hb2.size;have:=hB3.out.lt;omega
  generalize w2.heap.size=r at *;have hg1:Int.gcd x d<=d.natAbs:=Int.gcd_le_natAbs_right _ oM;have hg0:0<Int.gcd x d:=Int.gcd_pos_of_ne_zero_right _ oM;generalize Int.gcd x d=g at *;have c5:aF ((g:Int)).natAbs<=CT:=by rw[Int.natAbs_natCast];exact Nat.le_trans (iV hg1) (Vx c2)
  have q:(g:Int)≠0:=oM;clear b hb2 hb3 u1 u2 v1 v2 hB1 hB2 hB3;have e1:=m.at1 0 _ rfl;have e2:=m.at1 1 _ rfl;have e3:=o.at1 0 _ rfl;have e4:=o.at1 1 _ rfl
  go_upto_region 7 with (go_at_call 123;refine(uB _ _ _ _ _ _ _ s p (Vx c1) c5 q).mono ?_;rintro e w5 ⟨n5,m5,n6,m6,rfl,i5,i6,hb5⟩;obtain⟨a5,k5,q5,rfl,-,-⟩:=i5.shape;obtain⟨a6,k6,q6,rfl,-,-⟩:=i6.shape)
  refine xc λW5 hb6 u y hsz5=>?_;have b:=hb5.trans (hb6.mono hb5.size);replace Bd:=Bd.on b;replace o:=o.on b;replace id:=id.on b;replace p:=p.on b;replace i:=i.on b;replace hb:=hb.trans (b.mono hb.size);replace i5:=i5.on hb6;rw[<-D.out]at i5;have hlt5:r<w5.heap.size:=by have:=hb5.size;omega
  generalize w5.heap.size=r5 at *;clear e1 e2 e3 e4 hb5 hb6 b s m i6 y;have e1:=Bd.at1 0 _ rfl;have e2:=Bd.at1 1 _ rfl;have e3:=o.at1 0 _ rfl;have e4:=o.at1 1 _ rfl
  go_upto_region 8 with (go_at_call 123;refine(uB _ _ _ _ _ _ _ id p (Vx c2) c5 q).mono ?_;rintro e w7 ⟨n7,m7,n8,m8,rfl,i7,i8,hb7⟩;obtain⟨a7,k7,q7,rfl,-,-⟩:=i7.shape;obtain⟨a8,k8,q8,rfl,-,-⟩:=i8.shape)
  refine xc λW7 hb8 I z hsz7=>?_;have b:=hb7.trans (hb8.mono hb7.size);replace u:=u.on b;replace i:=i.on b;replace hb:=hb.trans (b.mono hb.size);replace i5:=i5.on b;replace i7:=i7.on hb8;rw[<-n.out]at i7;generalize w7.heap.size=r7 at *;clear e1 e2 e3 e4 hb7 hb8 b id Bd i8 z;have e1:=u.at1 0 _ rfl;have e2:=u.at1 1 _ rfl;have e3:=I.at1 0 _ rfl;have e4:=I.at1 1 _ rfl
  go_wp2_with (refine az rfl _ (.tmp 4) (.tmp 43) rfl _ _ _ _ rfl rfl i rfl dA dJ ?_;intro w9 R9 gr9)
  exact bodyPost_ret (nG rfl _ _ _ Tryz.underlying41 rfl rfl R9 dA) rfl ⟨_,rfl,bM.stored ⟨_,_,_,_,_,_,_,_,rfl,i5,i7⟩ gr9 i dM,hb.trans ((aH gr9 (Nat.le_of_lt i.lt) (nL _)).mono oM)⟩
theorem Na(n1 n2:Bool)(m1 m2:Value)(z1 z2:Int)(w:World)(h1:aZ w n1 m1 z1)(h2:aZ w n2 m2 z2)(c1:aF z1.natAbs<=CT)(c2:aF z2.natAbs<=CT)(hz:z2≠0) :
  Calls Tryz.prog 107 #[.agg #[.bool n1,m1],.agg #[.bool n2,m2]] w (pX w (Rat.divInt z1 z2)):=by
 obtain⟨a1,k1,q1,rfl,-,-⟩:=h1.shape;obtain⟨a2,k2,q2,rfl,-,-⟩:=h2.shape
 go_enter Tryz.func107,Tryz.ntmps107
 go_upto_region 1 with (fail)
 refine rQ λW hb0 B1 B2 B3 i=>?_;have x1:=B1.at1 0 _ rfl;have x2:=B1.at1 1 _ rfl;have y1:=B2.at1 0 _ rfl;have y2:=B2.at1 1 _ rfl
 go_upto_region 2 with (go_at_call 104;refine(M9 _ _ _ _ _ _ W (h1.on hb0) (h2.on hb0) c1 c2 hz).mono ?_;rintro e w1 ⟨v,rfl,hv,hb1⟩;obtain⟨t1,b1,g1,d1,t2,b2,g2,d2,rfl,j1,j2⟩:=hv)
 refine jb λW2 hb2 B5 hsz2=>?_;have b:=hb1.trans (hb2.mono hb1.size);have C3:=B3.on b;have e1:=B5.at1 0 _ rfl;have e2:=B5.at1 1 _ rfl;have e3:=B5.at1 2 _ rfl;have e4:=B5.at1 3 _ rfl;clear x1 x2 y1 y2
 go_wp2_with (refine az rfl _ (.tmp 4) (.tmp 13) rfl _ _ _ _ rfl rfl C3 rfl dA dJ ?_;intro w3 R d)
 exact dH rfl rfl rfl R Tryz.underlying41 rfl dA (oI hb0 b oM C3 ⟨_,_,_,_,_,_,_,_,rfl,j1.on hb2,j2.on hb2⟩ d)
end Go.Proofs.YtopclbeomcggiaaGreat
end
section
namespace Go.Proofs.YtopclbeomcggiaaGreat
open Go.RowKit Q Go.WideMaps Go.Maps
end Go.Proofs.YtopclbeomcggiaaGreat
namespace Q
open Go Go.RowKit Q Go.Proofs.YtopclbeomcggiaaGreat
theorem di.base_mono{α:Type}{e:El α}{base i:Nat}{w:World}{v:Value}{l:List α}(h:di e base w v l)(hb:i<=base):di e i w v l:=by
 obtain⟨p,⟨j,d⟩,k⟩:=h;refine⟨p,⟨j,?_⟩,k⟩;rcases d with d|⟨g,cap,b,m,n,o⟩
 ·exact .inl d
 ·exact .inr ⟨g,cap,b,m,Nat.le_trans hb n,o⟩
end Q
namespace Go.Proofs.YtopclbeomcggiaaGreat
open Go.RowKit Q Go.WideMaps Go.Maps
theorem TA(q:Rat):q*(-1)=-q:=gR
theorem Rk.neg{q:Rat}(h:Rk q):Rk (-q):=by unfold Rk at *;rw[Rat.neg_den,Rat.neg_num,Int.natAbs_neg];exact h
theorem Rk.m1:Rk (-1):=⟨by unfold jl;decide,by unfold jl;decide⟩
theorem E9(p:List ai):bN p (-1)=p.map λt=>(t.1,t.2*(-1)):=by rw[bN,if_neg dM]
theorem IX{p:List ai}(h:∀t∈p,Rk t.2):∀t∈bN p (-1),Rk t.2:=by rw[E9];intro t d;obtain⟨s,b,rfl⟩:=List.mem_map.1 d;simp only[TA];exact(h s b).neg
theorem Nb(l m:Value)(p q:List ai)(w:World)(hp:ak w l p)(hq:ak w m q)(r:∀t∈p,Rk t.2)(k:∀t∈q,Rk t.2)(o:p.length<=100000000)(j:q.length<=100000000)(d:bR p)(i:bR q) :
  Calls Tryz.prog 74 #[l,m] w (wh w (gH p q)):=by
 have n:=IX k;have b:(bN q (-1)).length<=100000000:=by rw[E9];simpa using j
 have hm:=qQ d (i.scale (-1))
 go_enter Tryz.func74,Tryz.ntmps74
 go_wp2_with (first
  | (go_at_call 47;refine(rV (-1) _ oM oM).mono ?_;rintro en W1 ⟨v7,rfl,h7,hb1⟩)
  | (go_at_call 48;refine(E8 _ _ q (-1) _ (hq.on hb1) h7 Rk.m1 k j).mono ?_;rintro en W2 ⟨v8,rfl,h8,hb2⟩)
  | (go_at_call 106;refine(Tw _ _ p _ _ (hp.on (hb1.trans (hb2.mono hb1.size))) h8 r n o b).mono ?_;rintro en W3 ⟨v9,rfl,h9,hb3⟩))
 go_ret;have hb12:=hb1.trans (hb2.mono hb1.size)
 exact⟨_,rfl,by
  rw[gH,<-hm]
  exact h9.base_mono hb12.size,hb12.trans (hb3.mono hb12.size)⟩
theorem Gx(e i:Value)(p q:List ai)(w:World)(hp:ak w e p)(hq:ak w i q)(l:∀t∈p,Rk t.2)(m:∀t∈q,Rk t.2)(j:p.length<=100000000)(k:q.length<=100000000)(b:bR p)(d:bR q) :
  Calls Tryz.prog 74 #[e,i] w (aS w (gH p q)):=(Nb e i p q w hp hq l m j k b d).mono λ_ _ h=>h.poly
theorem Em{p:List ai}{v k:Nat}{t:ai}(h:p[k]?=some t):dC (p.take (k+1)) v=dC (p.take k) v++(if 0<t.1.get v then [(t.1.put v (t.1.get v-1),t.2*(t.1.get v:Rat))]else []):=by
 rw[List.take_add_one,h];simp only[dC,Option.toList_some,List.filter_append,List.map_append]
 congr 1
 by_cases hz:0<t.1.get v
 ·simp[hz]
 ·simp[hz]
theorem IY(vp:Value)(p:List ai)(v:Nat)(w:World)(hp:ak w vp p)(hv:v<4)(D:∀t∈p,Rk t.2/\t.1.get v<=100000000/\Rk (t.1.get v:Rat))(ag:p.length<=100000000) :
  Calls Tryz.prog 73 #[vp,.int .i64 v] w (aS w (dC p v)):=by
 obtain⟨ap,cp,rfl,ac⟩:=hp.shape;replace D:=zH D;have hv4:(v:Int)<4:=oM
 go_enter Tryz.func73,Tryz.ntmps73
 go_wp2
 go_loopw [11,5] (λi o wr=>∃k:Nat,k<=p.length/\i=.int .i64 k/\Hid (bV w.heap.size wr o (dC (p.take k) v))/\(dC (p.take k) v).length<=k/\Below w.heap.size w wr) (λi _ _=>p.length-(intOf i).toNat)
 case atStart=>exact⟨0,oM,rfl,zH (di.nil _ _ _),by simp[dC],Below.refl _ _⟩
 case round =>
  obtain⟨k,Z,rfl,d,ad,hb⟩:=hrel;by_cases I:k<p.length
  ·have s:p[k]?=some p[k]:=gE I;obtain⟨a0,Y,cs,rfl,-,hE,hC⟩:=(hp.on hb).get s;generalize p[k]=t at s hE;have b:=Em (v:=v) s;obtain⟨e,q⟩:=t;obtain⟨r,rfl,n1,x1,k1,d1,n2,x2,k2,d2,rfl,i1,i2⟩:=hE;have hr:=hC.range;have a9:(k:Int)<p.length:=oM;have M:=List.mem_of_getElem? s;have u:=zH (show bM wr (.agg #[.bool n1,.slice x1 k1 d1,.bool n2,.slice x2 k2 d2]) q from⟨n1,x1,k1,d1,n2,x2,k2,d2,rfl,i1,i2⟩);obtain⟨J,a3,L⟩:=D.out _ M;simp only at J a3 L b;have a2:Ex.get e v=Ex.get e v:=rfl;have n:=qh e v hv [.bool n1,.slice x1 k1 d1,.bool n2,.slice x2 k2 d2];have y:=uY e v hv (Ex.get e v - 1);generalize hE':Ex.put e v (Ex.get e v - 1)=E' at *;generalize hx:Ex.get e v=x at *;clear hC i1 i2 hE' hx a2;replace b:=zH b;obtain⟨e1,e2,e3,e4⟩:=e;simp only[bC,List.cons_append,List.nil_append]at hr n
   go_upto_region 5 with (first
    | (refine aj rfl _ _ 27 rfl aJ Tryz.underlying27 _ 8 96 kM _ _ _ rfl .i64 _ rfl k rfl I a0 Y rfl ?_)
    | (refine wpList_load_mid rfl 43 _ rfl _ _ rfl _ _ hr Tryz.underlying43 rfl kM ?_))
   refine jb λW2 hb2 B hsz2=>?_;have hown2:=zH (d.out.on hb2);have C:=d.out.base_le;have hbW2:=hb.trans (hb2.mono hb.size);have hrat2:=u.out.on hb2;have X:w.heap.size<=wr.heap.size:=hb.size;have a4:∀g,u5.ownBlock=some g->g<wr.heap.size:=λg hg=>(C g hg).2;have l:∀g,u5.ownBlock=some g->w.heap.size<=g:=λg hg=>(C g hg).1;clear hb2 d hr u hb hsz2 C;generalize wr.heap.size=r at *;have z:=B.at1 v _ n;by_cases hx0:0<x
   ·go_upto_region 7 with (fail)
    have a8:IntKind.i64.wrap (x-1)=x-1:=mE oM;have z':=B.at1 v _ n;have hf:=B.frozen v
    go_upto_region 8 with (fail)
    have hl3:=aY (j:=v) B (.int .i64 (x-1));have B3:=B.set v (.int .i64 (x-1));have hset3:=y [.bool n1,.slice x1 k1 d1,.bool n2,.slice x2 k2 d2];simp only[bC,List.cons_append,List.nil_append]at hset3;rw[hset3]at B3;have F:u5.ownBlock≠some r:=λh=>by have:=a4 r h;simp at this
    have hown3:=hown2.out.lr hl3 (aW dM) (.inr F);have hrat3:=hrat2.lr hl3 dM;have hbW3:=hbW2.trans (hl3.belowAt hbW2.size (λk Z=>by cases Z;exact X));rw[if_pos hx0]at b;obtain⟨g1,g2,g3,g4⟩:=E';simp only[bC,List.cons_append,List.nil_append]at B3;generalize W2.setCell ⟨r,v,none⟩ (.int .i64 (x - 1))=W3 at *;clear hl3 hset3 y z z' hf a8 hown2 hrat2 B hbW2 n;refine aC mixed (none) (0) (fK.none) [.eq (.pointer (some ⟨r,4,none⟩)),.eq (.agg #[.bool n1,.slice x1 k1 d1,.bool n2,.slice x2 k2 d2]),.eq (.int .i64 x),.rat dM ((x:Rat)),.rat dM ((q*(x:Rat))),.eq (.pointer (some ⟨r,4,none⟩))] [28,29,30,31,32,33] rfl rfl rfl rfl ⟨λA _ hA _ _ _=>have h7:A.eval (.tmp 7)=.pointer (some ⟨r,0,none⟩):=hA 7 rfl;pZ rfl,λA _ _ hL _ he=>have hb:=hL.below;have h28:=eT 28 (he.1 rfl);have c0:=((B3).on hb).at1 4 _ rfl;have c1:=((B3).on hb).at1 5 _ rfl;have c2:=((B3).on hb).at1 6 _ rfl;have c3:=((B3).on hb).at1 7 _ rfl;pZ rfl,λ_ _ a _ _ _=>xM rfl (a 8 rfl),λA _ _ _ hS he=>have hb:=hS rfl;have h30:=eT 30 (he.1 rfl);have hf0:=eF A 47;cP (f:=47) (args:=#[.int .i64 x]) (rV _ _ oM oM),?_,λA _ hA _ _ _=>have h7:A.eval (.tmp 7)=.pointer (some ⟨r,0,none⟩):=hA 7 rfl;pZ rfl,trivial⟩ ?_
    ·intro A w1 hA hL hS he;have hb:=hS rfl;have h29:=eT 29 (he.1 rfl);obtain⟨v31,h31,f31⟩:=fT 31 (he.2.1 rfl);have hf0:=eF A 88;exact cP (f:=88) (args:=#[.agg #[.bool n1,.slice x1 k1 d1,.bool n2,.slice x2 k2 d2],v31]) (Cj _ _ _ _ _ (hrat3.on hb) f31 J L)
    ·intro W4 hL4;have hb4:=hL4.below;simp only[aT,af.eq,af.rat,af.of,lZ];rintro v31 h31 v32 h32;obtain⟨n5,a5,k5,c5,n6,a6,k6,c6,rfl⟩:=fE h32;go_frame;have hown4:=hown3.on hb4;have B4:=B3.on hb4;have hbW4:=hbW3.trans (hb4.mono hbW3.size);clear hown3 B3 hL4 hb4 h31 hrat3
     go_upto_region 9 with (refine mF rfl _ (.tmp 33) (.tmp 32) rfl r 4 aJ _ _ rfl rfl B4 sM dA dJ ?_;intro W5 R5 hl5)
     change Blk W5 r aJ (bC (g1,g2,g3,g4)++[.bool n5,.slice a5 k5 c5,.bool n6,.slice a6 k6 c6])at R5;have hown5:=hown4.lr hl5 (aW dM) (.inr F);have h325:=h32.lr hl5 dM;have hbW5:=hbW4.trans (hl5.belowAt hbW4.size (λk Z=>by cases Z;exact X));have N:some r≠u5.ownBlock:=λh=>F h.symm;obtain⟨G,m⟩:∃G,G=[Value.bool n5,.slice a5 k5 c5,.bool n6,.slice a6 k6 c6]:=⟨_,rfl⟩;have a7:G.length=4:=by rw[m];rfl
     have h8:(bC (g1,g2,g3,g4)++G).length=8:=by rw[List.length_append,a7];rfl
     rw[show(Value.agg #[.bool n5,.slice a5 k5 c5,.bool n6,.slice a6 k6 c6])=.agg G.toArray by rw[m]]at h325;rw[<-m]at R5;clear hown4 B4 hl5 hbW4 h32;refine aR trivial (u5.ownBlock) (aJ) (hown5.okr) [.eq (u5),.eq (.agg (bC (g1,g2,g3,g4)++G).toArray),.new1 aO fw (((g1,g2,g3,g4),q*(x:Rat))),.row aO (w.heap.size) W5.heap.size (dC (p.take k) v++[((g1,g2,g3,g4),q*(x:Rat))])] [34,35,36,37] rfl rfl rfl rfl ⟨λ_ _ a _ _ _=>xM rfl (a 5 rfl),λ_ _ a hL _ _=>pL rfl ((R5.lr hL N).range 0 _ (λj v h=>by rw[Nat.zero_add];exact h)) Tryz.underlying43 (h8) (a 7 rfl),?_,?_,trivial⟩ ?_
     ·intro A w1 hA hL hS he;have h35:=eT 35 (he.1 rfl);refine ae rfl ?_;have hE:(aO:El _).E w1 _ (((g1,g2,g3,g4),q*(x:Rat))):=⟨_,rfl,(h325.lr hL dM).cellsC⟩;refine fo rfl rfl ((hown5.okr).lr hL) hE (bu rfl ?_) (λ_ _ h=>h);simp only[List.map_toArray,List.map_cons,List.map_nil,h35];exact bK _ _ ((aO).len hE)
     ·intro A w1 hA hL hS he;have hb:=hS rfl;have a1:Below w.heap.size w w1:=hbW5.trans (hL.belowAt hbW5.size l);have h34:=eT 34 (he.1 rfl);obtain⟨v36,h36,f36⟩:=fT 36 (he.2.1 rfl);exact ae rfl (dL rfl rfl rfl Tryz.underlying27 bG h34 h36 (hown5.on hb) rfl rfl (dV f36) (by simp;omega) (a1.size) hL.1.size (λ_ _ h1 h2=>⟨h1,h2⟩))
     ·intro W6 hL6;simp only[aT,af.eq,af.new1,af.row,af.asPure,af.of,af.fragile,lZ];rintro v36 - v37 ⟨hown6,aa⟩;go_frame;have hbW6:=hbW5.trans (hL6.belowAt hbW5.size l);have S:(dC (p.take (k+1)) v).length<=k+1:=by rw[b.out];simp;omega
      go_wp2;go_roundw
      case measure=>simp[intOf];omega
      case rel=>exact⟨k+1,oM,nM,zH (by rw[b.out];exact hown6),S,hbW6⟩
   ·have ab:¬(0:Int)<x:=hx0;rw[if_neg hx0,List.append_nil]at b;go_wp2;go_roundw
    case measure=>simp[intOf];omega
    case rel=>exact⟨k+1,oM,nM,zH (by rw[b.out];exact hown2.out),by rw[b.out];omega,hbW2⟩
  ·obtain rfl:k=p.length:=oM;rw[tL (nL _)]at d;go_wp2;go_ret;exact⟨_,rfl,d.out.isSl,hb⟩
end Go.Proofs.YtopclbeomcggiaaGreat
end
section
namespace Q
end Q
namespace Go.Proofs.YtopclbeomcggiaaGreat
open Go.RowKit Q Go.WideMaps Go.Maps
end Go.Proofs.YtopclbeomcggiaaGreat
end
section
namespace Go.Proofs.YtopclbeomcggiaaGreat
open Go.RowKit Q
theorem zf(v:Value)(q:Rat)(w:World)(h:bM w v q):Calls Tryz.prog 67 #[v] w (rE w (.int .i64 (jm q.num))):=by
 obtain⟨s1,a1,l1,c1,s2,a2,l2,c2,rfl,i1,i2⟩:=h
 go_enter Tryz.func67,Tryz.ntmps67
 go_upto_region 1 with (fail)
 refine jb λW hb0 B1 b=>?_;have e1:=B1.at1 0 _ rfl;have e2:=B1.at1 1 _ rfl
 go_wp2_with (go_at_call 100;refine(pG _ _ _ _ (i1.on hb0)).mono ?_;rintro e w1 ⟨rfl,hb1⟩)
 go_ret;exact⟨rfl,hb0.trans (hb1.mono hb0.size)⟩
theorem gG(n:Int)(w:World)(h1:-4611686018427387904<=n)(h2:n<=4611686018427387904):Calls Tryz.prog 24 #[.int .i64 n] w (pX w n):=by
 go_enter Tryz.func24,Tryz.ntmps24
 go_upto_region 1 with (fail)
 refine jb λW hb0 B1 d=>?_;refine aR trivial (none) (0) (fK.none) [.eq (.int .i64 n),.int dM (n),.int dM (1),.rat dM (n:Rat)] [3,4,5,6] rfl rfl rfl rfl ⟨λ_ _ a _ _ _=>xM rfl (a 0 rfl),λA _ _ _ hS he=>have hb:=hS rfl;have h3:=eT 3 (he.1 rfl);have hf0:=eF A 70;cP (f:=70) (args:=#[.int .i64 n]) (AR n _ h1 h2),λA _ _ _ hS _=>have hb:=hS rfl;have hf0:=eF A 70;have hc0:=eC A (.int .i64 1);cP (f:=70) (args:=#[(.int .i64 1)]) (AR 1 _ oM oM),?_,trivial⟩ ?_
 ·intro A w1 hA hL hS he;obtain⟨v4,h4,f4⟩:=fT 4 (he.1 rfl);obtain⟨v5,h5,f5⟩:=fT 5 (he.2.1 rfl);refine ae rfl ?_;obtain⟨x4,y4,rfl,i4⟩:=f4;obtain⟨x5,y5,rfl,i5⟩:=f5;obtain⟨a4,k4,q4,rfl,-,-⟩:=i4.shape;obtain⟨a5,k5,q5,rfl,-,-⟩:=i5.shape;refine iM (c:=.agg #[.bool x4,.slice a4 k4 q4,.bool x5,.slice a5 k5 q5]) rfl rfl (Below.refl _ _) ⟨_,_,_,_,_,_,_,_,rfl,by rw[Rat.num_intCast];exact i4,by rw[Rat.den_intCast];exact i5⟩ ?_;exact gZ
 ·intro w1 hL;have hb1:=hL.below;simp only[aT,af.eq,af.int,af.rat,af.of,lZ];rintro _ - _ - v6 h6;obtain⟨t1,b1,g1,d1,t2,b2,g2,d2,rfl,j1,j2⟩:=h6;go_frame;have C1:=B1.on hb1
  go_wp2_with (refine az rfl _ (.tmp 2) (.tmp 6) rfl _ _ _ _ rfl rfl C1 rfl dA dJ ?_;intro w3 R b)
  exact dH rfl rfl rfl R Tryz.underlying41 rfl dA (oI hb0 hb1 oM C1 ⟨_,_,_,_,_,_,_,_,rfl,j1,j2⟩ b)
theorem IZ(v1 v2:Value)(p q:Rat)(w:World)(h1:bM w v1 p)(h2:bM w v2 q)(k1:Rs p)(k2:Rs q) :
  Calls Tryz.prog 81 #[v1,v2] w (pX w (p+q)):=by
 rw[<-Cf];obtain⟨s1,a1,l1,c1,s2,a2,l2,c2,rfl,i1,i2⟩:=h1;obtain⟨s3,a3,l3,c3,s4,a4,l4,c4,rfl,i3,i4⟩:=h2;obtain⟨k,dz⟩:=UK k1 k2;have j:=QM k1 k2;have d:=QM k2 k1;have sb:aF (p.num*(q.den:Int)+q.num*(p.den:Int)).natAbs<=CT:=by have:=Il j d;have q1:=MS;have q2:=mM;omega
 have cb1:aF (p.num*(q.den:Int)).natAbs<=CS:=by have q1:=nQ;have q2:=MS;omega
 have cb2:aF (q.num*(p.den:Int)).natAbs<=CS:=by have q1:=nQ;have q2:=MS;omega
 go_enter Tryz.func81,Tryz.ntmps81
 go_upto_region 1 with (fail)
 refine rQ λW hb0 B1 B2 B3 r=>?_;replace i1:=i1.on hb0;replace i2:=i2.on hb0;replace i3:=i3.on hb0;replace i4:=i4.on hb0;refine aC mixed (none) (0) (fK.none) [.eq (.pointer (some ⟨w.heap.size,0,none⟩)),.eq (.agg #[.bool s1,.slice a1 l1 c1]),.eq (.pointer (some ⟨w.heap.size+1,2,none⟩)),.eq (.agg #[.bool s4,.slice a4 l4 c4]),.int dM ((p.num*(q.den:Int))),.eq (.pointer (some ⟨w.heap.size+1,0,none⟩)),.eq (.agg #[.bool s3,.slice a3 l3 c3]),.eq (.pointer (some ⟨w.heap.size,2,none⟩)),.eq (.agg #[.bool s2,.slice a2 l2 c2]),.int dM ((q.num*(p.den:Int))),.int dM ((p.num*(q.den:Int)+q.num*(p.den:Int))),.box 39 W.heap.size [.bool false,.slice none 0 0]] [6,7,8,9,10,11,12,13,14,15,16,5] rfl rfl rfl rfl ⟨λA _ hA _ _ _=>have h2:A.eval (.tmp 2)=.pointer (some ⟨w.heap.size,0,none⟩):=hA 2 rfl;pZ rfl,λA _ _ hL _ he=>have hb:=hL.below;have h6:=eT 6 (he.1 rfl);have c0:=((B1).on hb).at1 0 _ rfl;have c1:=((B1).on hb).at1 1 _ rfl;pZ rfl,λA _ hA _ _ _=>have h3:A.eval (.tmp 3)=.pointer (some ⟨w.heap.size+1,0,none⟩):=hA 3 rfl;pZ rfl,λA _ _ hL _ he=>have hb:=hL.below;have h8:=eT 8 (he.1 rfl);have c0:=((B2).on hb).at1 2 _ rfl;have c1:=((B2).on hb).at1 3 _ rfl;pZ rfl,λA _ _ _ hS he=>have hb:=hS rfl;have h7:=eT 7 (he.1 rfl);have h9:=eT 9 (he.2.1 rfl);have hf0:=eF A 105;cP (f:=105) (args:=#[.agg #[.bool s1,.slice a1 l1 c1],.agg #[.bool s4,.slice a4 l4 c4]]) (lL _ _ _ _ _ _ _ (i1.on hb) (i4.on hb) (Kj k1.num) (Kj k2.den)),λA _ hA _ _ _=>have h3:A.eval (.tmp 3)=.pointer (some ⟨w.heap.size+1,0,none⟩):=hA 3 rfl;pZ rfl,λA _ _ hL _ he=>have hb:=hL.below;have h11:=eT 11 (he.1 rfl);have c0:=((B2).on hb).at1 0 _ rfl;have c1:=((B2).on hb).at1 1 _ rfl;pZ rfl,λA _ hA _ _ _=>have h2:A.eval (.tmp 2)=.pointer (some ⟨w.heap.size,0,none⟩):=hA 2 rfl;pZ rfl,λA _ _ hL _ he=>have hb:=hL.below;have h13:=eT 13 (he.1 rfl);have c0:=((B1).on hb).at1 2 _ rfl;have c1:=((B1).on hb).at1 3 _ rfl;pZ rfl,λA _ _ _ hS he=>have hb:=hS rfl;have h12:=eT 12 (he.1 rfl);have h14:=eT 14 (he.2.1 rfl);have hf0:=eF A 105;cP (f:=105) (args:=#[.agg #[.bool s3,.slice a3 l3 c3],.agg #[.bool s2,.slice a2 l2 c2]]) (lL _ _ _ _ _ _ _ (i3.on hb) (i2.on hb) (Kj k2.num) (Kj k1.den)),?_,?_,trivial⟩ ?_
 ·intro A w1 hA hL hS he;have hb:=hS rfl;obtain⟨v10,h10,f10⟩:=fT 10 (he.1 rfl);obtain⟨v15,h15,f15⟩:=fT 15 (he.2.1 rfl);have hf0:=eF A 108;refine ae rfl ?_;refine dI (f:=108) (args:=#[v10,v15]) rfl rfl ?_ ?_
  ·exact gZ
  ·obtain⟨n10,m10,rfl,i10⟩:=f10;obtain⟨n15,m15,rfl,i15⟩:=f15;refine(xC _ _ _ _ _ _ _ i10 i15 cb1 cb2).mono ?_;rintro e w' ⟨neg,m,rfl,i,b⟩;exact⟨_,rfl,b,neg,m,rfl,i⟩
 ·intro A w1 hA hL hS he;refine ae rfl ?_;refine nk rfl rfl ((fK.none).lr hL) hL.1.size (by generalize A.eval=ev at *;go_simp) (λ_ _ h=>h)
 ·intro W2 hL2;have hb2:=hL2.below;simp only[aT,af.eq,af.int,af.box,af.of,lZ];rintro _ - _ - _ ⟨n16,m16,rfl,i16⟩ v5 ⟨x,-,n,rfl,B5⟩;obtain⟨a5,k5,q5,rfl,-,-⟩:=i16.shape;go_frame;have C1:=B1.on hb2;have C2:=B2.on hb2;have C3:=B3.on hb2;have o:=B3.lt
  go_upto_region 2 with (refine az rfl _ (.tmp 5) (.tmp 16) rfl _ _ _ _ rfl rfl B5 rfl aK i16.ones ?_;intro w3 R3 gr3)
  have D1:=C1.grown gr3 oM;have D2:=C2.grown gr3 oM;have D3:=C3.grown gr3 oM;have j16:=i16.stored gr3 B5 dM;have j2:=(i2.on hb2).stored gr3 B5 dM;have j4:=(i4.on hb2).stored gr3 B5 dM;have hb3:Below W.heap.size W w3:=hb2.trans ((aH gr3 (Nat.le_of_lt B5.lt) (nL _)).mono oM);clear C1 C2 C3 B5 gr3 i16 hb2 hL2;refine aC mixed (none) (0) (fK.none) [.eq (.agg #[.bool n16,.slice a5 k5 q5]),.eq (.pointer (some ⟨w.heap.size,2,none⟩)),.eq (.agg #[.bool s2,.slice a2 l2 c2]),.eq (.pointer (some ⟨w.heap.size+1,2,none⟩)),.eq (.agg #[.bool s4,.slice a4 l4 c4]),.int dM (((p.den:Int)*(q.den:Int))),.rat dM ((Rat.divInt (p.num*(q.den:Int)+q.num*(p.den:Int)) ((p.den:Int)*(q.den:Int))))] [17,18,19,20,21,22,23] rfl rfl rfl rfl ⟨λA _ hA hL _ _=>have hb:=hL.below;have h5:A.eval (.tmp 5)=.pointer (some ⟨x,0,none⟩):=hA 5 rfl;have c0:=((R3).on hb).at1 0 _ rfl;have c1:=((R3).on hb).at1 1 _ rfl;pZ rfl,λA _ hA _ _ _=>have h2:A.eval (.tmp 2)=.pointer (some ⟨w.heap.size,0,none⟩):=hA 2 rfl;pZ rfl,λA _ _ hL _ he=>have hb:=hL.below;have h18:=eT 18 (he.1 rfl);have c0:=((D1).on hb).at1 2 _ rfl;have c1:=((D1).on hb).at1 3 _ rfl;pZ rfl,λA _ hA _ _ _=>have h3:A.eval (.tmp 3)=.pointer (some ⟨w.heap.size+1,0,none⟩):=hA 3 rfl;pZ rfl,λA _ _ hL _ he=>have hb:=hL.below;have h20:=eT 20 (he.1 rfl);have c0:=((D2).on hb).at1 2 _ rfl;have c1:=((D2).on hb).at1 3 _ rfl;pZ rfl,λA _ _ _ hS he=>have hb:=hS rfl;have h19:=eT 19 (he.1 rfl);have h21:=eT 21 (he.2.1 rfl);have hf0:=eF A 105;cP (f:=105) (args:=#[.agg #[.bool s2,.slice a2 l2 c2],.agg #[.bool s4,.slice a4 l4 c4]]) (lL _ _ _ _ _ _ _ (j2.on hb) (j4.on hb) (Kj k1.den) (Kj k2.den)),?_,trivial⟩ ?_
  ·intro A w1 hA hL hS he;have hb:=hS rfl;have h17:=eT 17 (he.1 rfl);obtain⟨v22,h22,f22⟩:=fT 22 (he.2.1 rfl);have hf0:=eF A 107;refine ae rfl ?_;refine dI (f:=107) (args:=#[.agg #[.bool n16,.slice a5 k5 q5],v22]) rfl rfl ?_ ?_
   ·exact gZ
   ·obtain⟨n22,m22,rfl,i22⟩:=f22;refine(Na _ _ _ _ _ _ _ (j16.on hb) i22 sb k dz).mono ?_;rintro e w' ⟨v,rfl,i,b⟩;exact⟨_,rfl,b,i⟩
  ·intro w4 hL4;have hb4:=hL4.below;simp only[aT,af.eq,af.int,af.rat,af.of,lZ];rintro _ - v23 h23;obtain⟨t1,b1,g1,d1,t2,b2,g2,d2,rfl,u1,u2⟩:=h23;go_frame;have E3:=D3.on hb4
   go_wp2_with (refine az rfl _ (.tmp 4) (.tmp 23) rfl _ _ _ _ rfl rfl E3 rfl dA dJ ?_;intro w5 R l)
   exact dH rfl rfl rfl R Tryz.underlying41 rfl dA (oI hb0 (hb3.trans (hb4.mono hb3.size)) oM E3 ⟨_,_,_,_,_,_,_,_,rfl,u1,u2⟩ l)
theorem QN(v1 v2:Value)(p q:Rat)(w:World)(h1:bM w v1 p)(h2:bM w v2 q)(k1:Rs p)(k2:Rs q) :
  Calls Tryz.prog 75 #[v1,v2] w (pX w (p*q)):=by
 rw[<-Ch];obtain⟨s1,a1,l1,c1,s2,a2,l2,c2,rfl,i1,i2⟩:=h1;obtain⟨s3,a3,l3,c3,s4,a4,l4,c4,rfl,i3,i4⟩:=h2;obtain⟨d,dz⟩:=UK k1 k2;have sb:aF (p.num*q.num).natAbs<=CT:=by have:=gB p.num.natAbs q.num.natAbs;have:=k1.2;have:=k2.2;rw[Int.natAbs_mul];have q1:=nQ;have q2:=mM;omega
 go_enter Tryz.func75,Tryz.ntmps75
 go_upto_region 1 with (fail)
 refine rQ λW hb0 B1 B2 B3 k=>?_;replace i1:=i1.on hb0;replace i2:=i2.on hb0;replace i3:=i3.on hb0;replace i4:=i4.on hb0;refine aC mixed (none) (0) (fK.none) [.eq (.pointer (some ⟨w.heap.size,0,none⟩)),.eq (.agg #[.bool s1,.slice a1 l1 c1]),.eq (.pointer (some ⟨w.heap.size+1,0,none⟩)),.eq (.agg #[.bool s3,.slice a3 l3 c3]),.int dM ((p.num*q.num)),.eq (.pointer (some ⟨w.heap.size,2,none⟩)),.eq (.agg #[.bool s2,.slice a2 l2 c2]),.eq (.pointer (some ⟨w.heap.size+1,2,none⟩)),.eq (.agg #[.bool s4,.slice a4 l4 c4]),.int dM (((p.den:Int)*(q.den:Int))),.rat dM ((Rat.divInt (p.num*q.num) ((p.den:Int)*(q.den:Int))))] [5,6,7,8,9,10,11,12,13,14,15] rfl rfl rfl rfl ⟨λA _ hA _ _ _=>have h2:A.eval (.tmp 2)=.pointer (some ⟨w.heap.size,0,none⟩):=hA 2 rfl;pZ rfl,λA _ _ hL _ he=>have hb:=hL.below;have h5:=eT 5 (he.1 rfl);have c0:=((B1).on hb).at1 0 _ rfl;have c1:=((B1).on hb).at1 1 _ rfl;pZ rfl,λA _ hA _ _ _=>have h3:A.eval (.tmp 3)=.pointer (some ⟨w.heap.size+1,0,none⟩):=hA 3 rfl;pZ rfl,λA _ _ hL _ he=>have hb:=hL.below;have h7:=eT 7 (he.1 rfl);have c0:=((B2).on hb).at1 0 _ rfl;have c1:=((B2).on hb).at1 1 _ rfl;pZ rfl,λA _ _ _ hS he=>have hb:=hS rfl;have h6:=eT 6 (he.1 rfl);have h8:=eT 8 (he.2.1 rfl);have hf0:=eF A 105;cP (f:=105) (args:=#[.agg #[.bool s1,.slice a1 l1 c1],.agg #[.bool s3,.slice a3 l3 c3]]) (lL _ _ _ _ _ _ _ (i1.on hb) (i3.on hb) (Kj k1.num) (Kj k2.num)),λA _ hA _ _ _=>have h2:A.eval (.tmp 2)=.pointer (some ⟨w.heap.size,0,none⟩):=hA 2 rfl;pZ rfl,λA _ _ hL _ he=>have hb:=hL.below;have h10:=eT 10 (he.1 rfl);have c0:=((B1).on hb).at1 2 _ rfl;have c1:=((B1).on hb).at1 3 _ rfl;pZ rfl,λA _ hA _ _ _=>have h3:A.eval (.tmp 3)=.pointer (some ⟨w.heap.size+1,0,none⟩):=hA 3 rfl;pZ rfl,λA _ _ hL _ he=>have hb:=hL.below;have h12:=eT 12 (he.1 rfl);have c0:=((B2).on hb).at1 2 _ rfl;have c1:=((B2).on hb).at1 3 _ rfl;pZ rfl,λA _ _ _ hS he=>have hb:=hS rfl;have h11:=eT 11 (he.1 rfl);have h13:=eT 13 (he.2.1 rfl);have hf0:=eF A 105;cP (f:=105) (args:=#[.agg #[.bool s2,.slice a2 l2 c2],.agg #[.bool s4,.slice a4 l4 c4]]) (lL _ _ _ _ _ _ _ (i2.on hb) (i4.on hb) (Kj k1.den) (Kj k2.den)),?_,trivial⟩ ?_
 ·intro A w1 hA hL hS he;have hb:=hS rfl;obtain⟨v9,h9,f9⟩:=fT 9 (he.1 rfl);obtain⟨v14,h14,f14⟩:=fT 14 (he.2.1 rfl);have hf0:=eF A 107;refine ae rfl ?_;refine dI (f:=107) (args:=#[v9,v14]) rfl rfl ?_ ?_
  ·exact gZ
  ·obtain⟨n9,m9,rfl,i9⟩:=f9;obtain⟨n14,m14,rfl,i14⟩:=f14;refine(Na _ _ _ _ _ _ _ i9 i14 sb d dz).mono ?_;rintro e w' ⟨v,rfl,j,b⟩;exact⟨_,rfl,b,j⟩
 ·intro w4 hL4;have hb4:=hL4.below;simp only[aT,af.eq,af.int,af.rat,af.of,lZ];rintro _ - _ - v23 h23;obtain⟨t1,b1,g1,d1,t2,b2,g2,d2,rfl,u1,u2⟩:=h23;go_frame;have E3:=B3.on hb4
  go_wp2_with (refine az rfl _ (.tmp 4) (.tmp 15) rfl _ _ _ _ rfl rfl E3 rfl dA dJ ?_;intro w5 R i)
  exact dH rfl rfl rfl R Tryz.underlying41 rfl dA (oI hb0 hb4 oM E3 ⟨_,_,_,_,_,_,_,_,rfl,u1,u2⟩ i)
theorem QO{p q:Rat}:decide (p=q)=(decide (p.num=q.num)&&decide ((p.den:Int)=(q.den:Int))):=by
 rw[Bool.eq_iff_iff];simp only[decide_eq_true_eq,Bool.and_eq_true];constructor
 ·rintro rfl;exact⟨rfl,rfl⟩
 ·rintro⟨b,d⟩;exact Rat.ext b oM
theorem Fa(v1 v2:Value)(p q:Rat)(w:World)(h1:bM w v1 p)(h2:bM w v2 q)(k1:Rk p)(k2:Rk q) :
  Calls Tryz.prog 23 #[v1,v2] w (rE w (.bool (decide (p=q)))):=by
 obtain⟨s1,a1,l1,c1,s2,a2,l2,c2,rfl,i1,i2⟩:=h1;obtain⟨s3,a3,l3,c3,s4,a4,l4,c4,rfl,i3,i4⟩:=h2;have he:=QO (p:=p) (q:=q);have b:=λW (hb:Below w.heap.size w W)=>EZ _ _ _ _ _ _ W (i1.on hb) (i3.on hb) k1.num' k2.num';have d:=λW (hb:Below w.heap.size w W)=>EZ _ _ _ _ _ _ W (i2.on hb) (i4.on hb) k1.den' k2.den';generalize decide ((p.den:Int)=(q.den:Int))=dd at *;generalize decide (p.num=q.num)=dn at *;replace he:=zH he
 go_enter Tryz.func23,Tryz.ntmps23
 go_upto_region 1 with (fail)
 refine xc λW hb0 B1 B2 i=>?_;cases dn
 ·skip
  refine aR trivial (none) (0) (fK.none) [.eq (.pointer (some ⟨w.heap.size,0,none⟩)),.eq (.agg #[.bool s1,.slice a1 l1 c1]),.eq (.pointer (some ⟨w.heap.size+1,0,none⟩)),.eq (.agg #[.bool s3,.slice a3 l3 c3]),.ret (.bool false),.eq (.bool false),.eq undef,.eq undef,.eq undef,.eq undef,.eq undef,.eq (.bool false)] [5,6,7,8,9,10,11,12,13,14,15,16] rfl rfl rfl rfl ⟨λA _ hA _ _ _=>have h2:A.eval (.tmp 2)=.pointer (some ⟨w.heap.size,0,none⟩):=hA 2 rfl;pZ rfl,λA _ _ hL _ he=>have hb:=hL.below;have h5:=eT 5 (he.1 rfl);have c0:=((B1).on hb).at1 0 _ rfl;have c1:=((B1).on hb).at1 1 _ rfl;pZ rfl,λA _ hA _ _ _=>have h3:A.eval (.tmp 3)=.pointer (some ⟨w.heap.size+1,0,none⟩):=hA 3 rfl;pZ rfl,λA _ _ hL _ he=>have hb:=hL.below;have h7:=eT 7 (he.1 rfl);have c0:=((B2).on hb).at1 0 _ rfl;have c1:=((B2).on hb).at1 1 _ rfl;pZ rfl,λA _ _ _ hS he=>have hb:=hS rfl;have h6:=eT 6 (he.1 rfl);have h8:=eT 8 (he.2.1 rfl);have hf0:=eF A 69;cP (f:=69) (args:=#[.agg #[.bool s1,.slice a1 l1 c1],.agg #[.bool s3,.slice a3 l3 c3]]) (b _ (hb0.trans (hb.mono hb0.size))),λ_ _ _ _ _ e=>xM rfl (e.1 rfl),λ_ _ _ _ _ e=>nO false (e.1 rfl),λ_ _ _ _ _ e=>nO false (e.2.1 rfl),λ_ _ _ _ _ e=>nO false (e.1 rfl),λ_ _ _ _ _ e=>nO false (e.2.1 rfl),λ_ _ _ _ _ e=>nO false (e.2.2.1 rfl),λ_ _ _ _ _ e=>ae rfl (ji rfl (e.1 rfl) rfl rfl),trivial⟩ ?_
  ·intro W2 hL2;simp only[aT,af.eq,af.ret,lZ];go_frame;go_wp2;go_ret;exact⟨by rw[he.out]<;>rfl,hb0.trans (hL2.below.mono hb0.size)⟩
 ·skip
  refine aR trivial (none) (0) (fK.none) [.eq (.pointer (some ⟨w.heap.size,0,none⟩)),.eq (.agg #[.bool s1,.slice a1 l1 c1]),.eq (.pointer (some ⟨w.heap.size+1,0,none⟩)),.eq (.agg #[.bool s3,.slice a3 l3 c3]),.ret (.bool true),.eq (.bool true),.eq (.pointer (some ⟨w.heap.size,2,none⟩)),.eq (.agg #[.bool s2,.slice a2 l2 c2]),.eq (.pointer (some ⟨w.heap.size+1,2,none⟩)),.eq (.agg #[.bool s4,.slice a4 l4 c4]),.ret (.bool dd),.eq (.bool dd)] [5,6,7,8,9,10,11,12,13,14,15,16] rfl rfl rfl rfl ⟨λA _ hA _ _ _=>have h2:A.eval (.tmp 2)=.pointer (some ⟨w.heap.size,0,none⟩):=hA 2 rfl;pZ rfl,λA _ _ hL _ he=>have hb:=hL.below;have h5:=eT 5 (he.1 rfl);have c0:=((B1).on hb).at1 0 _ rfl;have c1:=((B1).on hb).at1 1 _ rfl;pZ rfl,λA _ hA _ _ _=>have h3:A.eval (.tmp 3)=.pointer (some ⟨w.heap.size+1,0,none⟩):=hA 3 rfl;pZ rfl,λA _ _ hL _ he=>have hb:=hL.below;have h7:=eT 7 (he.1 rfl);have c0:=((B2).on hb).at1 0 _ rfl;have c1:=((B2).on hb).at1 1 _ rfl;pZ rfl,λA _ _ _ hS he=>have hb:=hS rfl;have h6:=eT 6 (he.1 rfl);have h8:=eT 8 (he.2.1 rfl);have hf0:=eF A 69;cP (f:=69) (args:=#[.agg #[.bool s1,.slice a1 l1 c1],.agg #[.bool s3,.slice a3 l3 c3]]) (b _ (hb0.trans (hb.mono hb0.size))),λ_ _ _ _ _ e=>xM rfl (e.1 rfl),λA _ hA _ _ he=>have h10:=eT 10 (he.1 rfl);have h2:A.eval (.tmp 2)=.pointer (some ⟨w.heap.size,0,none⟩):=hA 2 rfl;yZ h10 rfl,λA _ _ hL _ he=>have hb:=hL.below;have h10:=eT 10 (he.2.1 rfl);have h11:=eT 11 (he.1 rfl);have c0:=((B1).on hb).at1 2 _ rfl;have c1:=((B1).on hb).at1 3 _ rfl;yZ h10 rfl,λA _ hA _ _ he=>have h10:=eT 10 (he.1 rfl);have h3:A.eval (.tmp 3)=.pointer (some ⟨w.heap.size+1,0,none⟩):=hA 3 rfl;yZ h10 rfl,λA _ _ hL _ he=>have hb:=hL.below;have h10:=eT 10 (he.2.1 rfl);have h13:=eT 13 (he.1 rfl);have c0:=((B2).on hb).at1 2 _ rfl;have c1:=((B2).on hb).at1 3 _ rfl;yZ h10 rfl,λA _ _ _ hS he=>have hb:=hS rfl;have h10:=eT 10 (he.2.2.1 rfl);have h12:=eT 12 (he.1 rfl);have h14:=eT 14 (he.2.1 rfl);have hf0:=eF A 69;cY (f:=69) (args:=#[.agg #[.bool s2,.slice a2 l2 c2],.agg #[.bool s4,.slice a4 l4 c4]]) h10 (d _ (hb0.trans (hb.mono hb0.size))),λ_ _ _ _ _ e=>pK rfl (e.1 rfl) (e.2.1 rfl),trivial⟩ ?_
  ·intro W2 hL2;simp only[aT,af.eq,af.ret,lZ];go_frame;go_wp2;go_ret;exact⟨by rw[he.out]<;>rfl,hb0.trans (hL2.below.mono hb0.size)⟩
theorem Ex.gt_at{e f:Ex}{i:Nat}(p:i<4)(h:∀j,i<j->j<4->e.get j=f.get j)(k:e.get i≠f.get i):e.gt f=decide (f.get i<e.get i):=by
 obtain⟨a,b,c,d⟩:=e;obtain⟨a',l,c',d'⟩:=f;have m:=h 1;have n:=h 2;have o:=h 3;rw[Bool.eq_iff_iff,Ex.gt_iff,decide_eq_true_iff];obtain rfl|rfl|rfl|rfl:i=0\/i=1\/i=2\/i=3:=oM
 all_goals simp[Ex.get]at *
 all_goals omega
theorem Ex.eq_get{e f:Ex}(h:∀j,j<4->e.get j=f.get j):e=f :=
 Ex.ext' (h 0 oM) (h 1 oM) (h 2 oM) (h 3 oM)
theorem uC(e f:Ex)(w:World):Calls Tryz.prog 68 #[.agg (bC e).toArray,.agg (bC f).toArray] w (rE w (.bool (e.gt f))):=by
 have hg0:=λi G h s=>Ex.gt_at (e:=e) (f:=f) (i:=i) G h s;have hg1:(∀j,j<4->e.get j=f.get j)->e.gt f=false:=λh=>by rw[Ex.eq_get h];exact Ex.gt_irrefl _
 have hc1:=λk q=>AV e k q;have hc2:=λk q=>AV f k q;generalize e.gt f=R at *;obtain⟨x1,x2,x3,x4⟩:=e;obtain⟨y1,y2,y3,y4⟩:=f;simp only[bC]at hc1 hc2 ⊢;replace hg0:=zH hg0;replace hg1:=zH hg1
 go_enter Tryz.func68,Tryz.ntmps68
 go_upto_region 1 with (fail)
 refine xc λW hb0 B1 B2 J=>?_;go_wp2
 go_loopw [5] (λi wr=>∃k:Nat,k<=4/\i=.int .i64 ((k:Int)-1)/\Hid (∀j,k<=j->j<4->Ex.get (x1,x2,x3,x4) j=Ex.get (y1,y2,y3,y4) j)/\Below W.heap.size W wr) (λi _=>(intOf i+1).toNat)
 case atStart=>exact⟨4,oM,rfl,zH (λj h1 h2=>oM),Below.refl _ _⟩
 case round =>
  obtain⟨k,q,rfl,hd,b⟩:=hrel;by_cases h0:1<=k
  ·obtain⟨i,rfl⟩:∃i,k=i+1:=⟨k - 1,oM⟩;have hi4:i<4:=oM;have D:(i:Int)<4:=oM;have u:=hc1 i hi4;have z:=hc2 i hi4;have n:=hg0.out i hi4 (λj h1 h2=>hd.out j h1 h2)
   have m:Ex.get (x1,x2,x3,x4) i=Ex.get (y1,y2,y3,y4) i->∀j,i<=j->j<4->Ex.get (x1,x2,x3,x4) j=Ex.get (y1,y2,y3,y4) j:=λh j h1 h2=>by
    rcases Nat.eq_or_lt_of_le h1 with h'|h'
    ·rw[<-h'];exact h
    ·exact hd.out j h' h2
   replace m:=zH m;have B:Hid (∃x,x=Ex.get (x1,x2,x3,x4) i):=⟨_,rfl⟩;obtain⟨x,ex⟩:=B.out;have C:Hid (∃y,y=Ex.get (y1,y2,y3,y4) i):=⟨_,rfl⟩;obtain⟨y,p⟩:=C.out;rw[<-ex]at u n;rw[<-p]at z n;replace ex:=zH ex;replace p:=zH p;clear hd B C;have hi1:(((i+1:Nat):Int) - 1)=(i:Int):=oM;rw[hi1];have f1:∀l,Below W.heap.size W l->l.cell? ⟨w.heap.size,i,none⟩=some (.int .i64 x):=λl hb=>(B1.on hb).at1 i _ u;have f2:∀l,Below W.heap.size W l->l.cell? ⟨w.heap.size+1,i,none⟩=some (.int .i64 y):=λl hb=>(B2.on hb).at1 i _ z;clear u z
   go_upto_region 4 with (fail)
   refine aC mixed (none) (0) (fK.none) [.eq (.int .i64 i),.eq (.pointer (some ⟨w.heap.size,i,none⟩)),.eq (.int .i64 x),.eq (.int .i64 i),.eq (.pointer (some ⟨w.heap.size+1,i,none⟩)),.eq (.int .i64 y),.eq (.bool (x != y))] [10,11,12,13,14,15,16] rfl rfl rfl rfl ⟨λ_ _ a _ _ _=>xM rfl (a 5 rfl),λA _ hA _ _ he=>have h2:A.eval (.tmp 2)=.pointer (some ⟨w.heap.size,0,none⟩):=hA 2 rfl;have h10:=eT 10 (he.1 rfl);pZ rfl,?_,λ_ _ a _ _ _=>xM rfl (a 5 rfl),λA _ hA _ _ he=>have h3:A.eval (.tmp 3)=.pointer (some ⟨w.heap.size+1,0,none⟩):=hA 3 rfl;have h13:=eT 13 (he.1 rfl);pZ rfl,?_,λA _ _ _ _ he=>have h12:=eT 12 (he.1 rfl);have h15:=eT 15 (he.2.1 rfl);pZ rfl,trivial⟩ ?_
   ·intro A w1 hA hL hS he;have h11:=eT 11 (he.1 rfl);refine ae rfl ?_;have c0:=f1 w1 (b.trans (hL.below.mono b.size));exact aB rfl rfl gZ
   ·intro A w1 hA hL hS he;have h14:=eT 14 (he.1 rfl);refine ae rfl ?_;have c0:=f2 w1 (b.trans (hL.below.mono b.size));exact aB rfl rfl gZ
   ·intro W2 hL2;simp only[aT,af.eq,lZ];go_frame;have hb2:=b.trans (hL2.below.mono b.size);by_cases d:x=y
    ·have r:=zH (m.out (by rw[<-ex.out,<-p.out];exact d));have o:(x != y)=false:=by simp[d]
     rw[o];clear f1 f2;go_wp2;go_roundw
     case rel=>exact⟨i,oM,nM,r,hb2⟩
     case measure=>simp[intOf]
    ·have F:=zH (n d);have o:(x != y)=true:=by simp[d]
     rw[o]
     go_upto_region 5 with (fail)
     refine aC mixed (none) (0) (fK.none) [.eq (.int .i64 i),.eq (.pointer (some ⟨w.heap.size,i,none⟩)),.eq (.int .i64 x),.eq (.int .i64 i),.eq (.pointer (some ⟨w.heap.size+1,i,none⟩)),.eq (.int .i64 y),.eq (.bool (decide (y<x)))] [17,18,19,20,21,22,23] rfl rfl rfl rfl ⟨λ_ _ a _ _ _=>xM rfl (a 5 rfl),λA _ hA _ _ he=>have h2:A.eval (.tmp 2)=.pointer (some ⟨w.heap.size,0,none⟩):=hA 2 rfl;have h17:=eT 17 (he.1 rfl);pZ rfl,?_,λ_ _ a _ _ _=>xM rfl (a 5 rfl),λA _ hA _ _ he=>have h3:A.eval (.tmp 3)=.pointer (some ⟨w.heap.size+1,0,none⟩):=hA 3 rfl;have h20:=eT 20 (he.1 rfl);pZ rfl,?_,λA _ _ _ _ he=>have h19:=eT 19 (he.1 rfl);have h22:=eT 22 (he.2.1 rfl);pZ rfl,trivial⟩ ?_
     ·intro A w1 hA hL hS he;have h18:=eT 18 (he.1 rfl);refine ae rfl ?_;have c0:=f1 w1 (hb2.trans (hL.below.mono hb2.size));exact aB rfl rfl gZ
     ·intro A w1 hA hL hS he;have h21:=eT 21 (he.1 rfl);refine ae rfl ?_;have c0:=f2 w1 (hb2.trans (hL.below.mono hb2.size));exact aB rfl rfl gZ
     ·intro W3 hL3;simp only[aT,af.eq,lZ];go_frame;go_wp2;go_ret;exact⟨by rw[F.out]<;>rfl,hb0.trans ((hb2.trans (hL3.below.mono hb2.size)).mono hb0.size)⟩
  ·obtain rfl:k=0:=oM;have r:=zH (hg1.out (λj I=>hd.out j oM I));go_wp2;go_ret;exact⟨by rw[r.out]<;>rfl,hb0.trans (b.mono hb0.size)⟩
theorem xK(e:Ex)(w:World):Calls Tryz.prog 65 #[.agg (bC e).toArray] w (rE w (.bool e.nat)):=by
 obtain⟨x1,x2,x3,x4⟩:=e
 have hR:Ex.nat (x1,x2,x3,x4)=(decide (0<=x1)&&decide (0<=x2)&&decide (0<=x3)&&decide (0<=x4)):=by rw[Bool.eq_iff_iff,Ex.nat_iff];simp[Bool.and_eq_true,and_assoc]
 generalize Ex.nat (x1,x2,x3,x4)=R at *;replace hR:=zH hR;simp only[bC]
 go_enter Tryz.func65,Tryz.ntmps65
 go_upto_region 1 with (fail)
 refine jb λW hb0 B d=>?_;have e1:=B.at1 0 _ rfl;have e2:=B.at1 1 _ rfl;have e3:=B.at1 2 _ rfl;have e4:=B.at1 3 _ rfl;by_cases h1:0<=x1
 ·by_cases h2:0<=x2
  ·by_cases h3:0<=x3
   ·by_cases h4:0<=x4
    ·have b:Hid (R=true):=zH (by rw[hR.out];simp[h1,h2,h3,h4]);go_wp2;go_ret;exact⟨by rw[b.out]<;>rfl,hb0⟩
    ·have b:Hid (R=false):=zH (by rw[hR.out];simp[h4]);go_wp2;go_ret;exact⟨by rw[b.out]<;>rfl,hb0⟩
   ·have b:Hid (R=false):=zH (by rw[hR.out];simp[h3]);go_wp2;go_ret;exact⟨by rw[b.out]<;>rfl,hb0⟩
  ·have b:Hid (R=false):=zH (by rw[hR.out];simp[h2]);go_wp2;go_ret;exact⟨by rw[b.out]<;>rfl,hb0⟩
 ·have b:Hid (R=false):=zH (by rw[hR.out];simp[h1]);go_wp2;go_ret;exact⟨by rw[b.out]<;>rfl,hb0⟩
end Go.Proofs.YtopclbeomcggiaaGreat
end
section
namespace Go.Proofs.YtopclbeomcggiaaGreat
open Go.RowKit Q Go.WideMaps Go.Maps
def OX (w:World) (L:List (List ai)) (e:Ending) (w':World):Prop:=∃g vs,e=.returned (.slice (some ⟨g,0,none⟩) vs.length vs.length)/\Blk w' g polyT vs/\w.heap.size<=g/\kG w.heap.size w' vs L/\Below w.heap.size w w'
theorem ww(vp:Value)(p:List ai)(v:Nat)(w:World)(hp:ak w vp p)(hv:v<4)(hn:dO p)(hd:aD p v<=100000000)(a9:p.length<=100000000):Calls Tryz.prog 62 #[vp,.int .i64 v] w (OX w (aA p v)):=by
 have M:=jR vp p v w hp hv a9;have a7:=rH p v;have F:∀t∈p,t.1.get v<((aD p v+1).toNat:Int):=ME;have hR:aA p v=ni p v (aD p v+1).toNat p.length:=by rw[ni,tL (nL _)];rfl
 rw[hR];clear hR;obtain⟨ap,cp,rfl,ac⟩:=hp.shape;generalize aD p v=d at *;obtain⟨N,rfl⟩:∃N:Nat,d=(N:Int) - 1:=⟨(d+1).toNat,oM⟩;have X:((N:Int) - 1+1).toNat=N:=oM;rw[X]at F ⊢;have hN1:N<=100000001:=oM;have ad:IntKind.i64.wrap ((N:Int) - 1+1)=(N:Int):=by rw[mE oM];omega
 have hv4:(v:Int)<4:=oM;replace hn:=zH hn;replace F:=zH F;clear X a7 hd
 go_enter Tryz.func62,Tryz.ntmps62
 go_wp2_with (first
  | (go_at_call 53;refine M.mono ?_;rintro en w1 ⟨rfl,hb1⟩)
  | (at_make;refine bL rfl _ _ _ rfl polyT (.slice none 0 0) 1 24 Tryz.underlying75 kM rfl rfl .i64 .i64 _ _ N rfl rfl rfl rfl oM oM ?_;intro W hB Y))
 have hb0:=hb1.trans (Y.mono hb1.size);have a3:w.heap.size<=w1.heap.size:=hb1.size;have hB0:Blk W w1.heap.size polyT (List.replicate N (.slice none 0 0)):=hB;have hR0:kG w.heap.size W (List.replicate N (.slice none 0 0)) (ni p v N 0):=by rw[IU];exact kG.start _ _ _
 clear hB Y hb1;generalize w1.heap.size=og at *;go_wp2
 go_loopw [16] (λi wr=>∃(k:Nat)(vs:List Value),k<=p.length/\i=.int .i64 k/\vs.length=N/\Hid (Blk wr og polyT vs)/\Hid (kG w.heap.size wr vs (ni p v N k))/\Below w.heap.size w wr) (λi _=>p.length-(intOf i).toNat)
 case atStart=>exact⟨0,_,oM,rfl,sM,zH hB0,zH hR0,hb0⟩
 case round =>
  clear hB0 hR0 hb0;obtain⟨k,vs,hk,rfl,a4,hB,hR,hb⟩:=hrel;by_cases Z:k<p.length
  ·have D:p[k]?=some p[k]:=gE Z;obtain⟨a6,a5,cs,rfl,-,hE,hC⟩:=(hp.on hb).get D;generalize p[k]=t at D hE;obtain⟨e,q⟩:=t;obtain⟨r,rfl,n1,x1,k1,d1,n2,x2,k2,d2,rfl,i1,i2⟩:=hE;have hr:=hC.range;have aa:(k:Int)<p.length:=oM;have G:=List.mem_of_getElem? D;have J:=zH (show bM wr (.agg #[.bool n1,.slice x1 k1 d1,.bool n2,.slice x2 k2 d2]) q from⟨n1,x1,k1,d1,n2,x2,k2,d2,rfl,i1,i2⟩);have a1:0<=e.get v:=Ex.nat_get (hn.out _ G) v;have a0:e.get v<(N:Int):=F.out _ G;obtain⟨m,hm⟩:∃m:Nat,e.get v=m:=⟨(e.get v).toNat,oM⟩;have y:m<N:=oM;have bY:=IR p v N D hm y;have C:=qh e v hv [.bool n1,.slice x1 k1 d1,.bool n2,.slice x2 k2 d2];have u:=uY e v hv 0 [.bool n1,.slice x1 k1 d1,.bool n2,.slice x2 k2 d2];rw[hm]at C;simp only at bY;generalize hE':e.put v 0=E' at u bY;clear hm a1 a0 hE' hC i1 i2;obtain⟨e1,e2,e3,e4⟩:=e;obtain⟨g1,g2,g3,g4⟩:=E';simp only[bC,List.cons_append,List.nil_append]at hr C u;have o:vs[m]?=some vs[m]:=gE oM;generalize vs[m]=cur at o;have l:=hR.out.own m cur _ o (qi p v k y)
   go_upto_region 5 with (first
    | (refine aj rfl _ _ 27 rfl aJ Tryz.underlying27 _ 8 96 kM _ _ _ rfl .i64 _ rfl k rfl Z a6 a5 rfl ?_)
    | (refine wpList_load_mid rfl 43 _ rfl _ _ rfl _ _ hr Tryz.underlying43 rfl kM ?_))
   refine jb λW2 hb2 S hsz2=>?_;have ab:og<wr.heap.size:=hB.out.lt;have ag:w.heap.size<=wr.heap.size:=hb.size;have s:∀(n:Nat) v,vs[n]?=some v->v.ownBlock≠some wr.heap.size:=λn v hv he=>by have:=(hR.out.blk hv he).2;omega
   have L:=l.base_le
   have hog2:cur.ownBlock≠some og:=by intro he;have h1:=(l.okr og he).2;have h2:=hB.out.noOther;have:=h1 _ _ _ hB.out;exact absurd this dM
   replace s:=zH s;replace L:=zH L;have hB2:=zH (hB.out.on hb2);have hR2:=zH (hR.out.on hb2);have hbW2:=hb.trans (hb2.mono hb.size);have hrat2:=J.out.on hb2;have z:=S.at1 v _ C;have hf:=S.frozen v;clear hb2 hB hR hr J hb l;generalize wr.heap.size=r at *
   go_upto_region 7 with (fail)
   have hl3:=aY (j:=v) S (.int .i64 0);have B3:=S.set v (.int .i64 0);have hb3:Below w.heap.size W2 (W2.setCell ⟨r,v,none⟩ (.int .i64 0)):=bF oM _;rw[u]at B3;generalize W2.setCell ⟨r,v,none⟩ (.int .i64 0)=W3 at *;have hB3:=hB2.out.lr hl3 (by simp;omega);have hR3:=hR2.out.lrB hl3 dM s.out;have hrat3:=hrat2.lr hl3 dM;have hbW3:=hbW2.trans hb3;have hsz3:r<W3.heap.size:=B3.lt;clear z hf u C hl3 hB2 hR2 hrat2 hb3 hbW2 S;have l:=hR3.own m cur _ o (qi p v k y);have b:some r≠cur.ownBlock:=λh=>s.out m cur o h.symm;have I:some og≠cur.ownBlock:=λh=>hog2 h.symm;have x:∀w1,Lr cur.ownBlock aJ W3 w1->w1.cell? ⟨og,m,none⟩=some cur:=λw1 hL=>by rw[(hB3.lr hL I).cell m];exact o
   have a8:(aN (p.take k) v m).length<=100000000:=by unfold aN;rw[List.length_map];have:=List.length_filter_le (λt:ai=>decide (t.1.get v=(m:Int))) (p.take k);rw[List.length_take]at this;omega
   go_upto_region 7 with (fail)
   refine aC mixed (cur.ownBlock) (aJ) (l.okr) [.eq (.slice (some ⟨og,0,none⟩) N N),.eq (.int .i64 (m:Int)),.eq (.slice (some ⟨og,0,none⟩) N N),.eq (.int .i64 (m:Int)),.eq (.pointer (some ⟨og,0+m*1,none⟩)),.eq (cur),.eq (.agg #[.int .i64 g1,.int .i64 g2,.int .i64 g3,.int .i64 g4,.bool n1,.slice x1 k1 d1,.bool n2,.slice x2 k2 d2]),.new1 aO fw (((g1,g2,g3,g4),q)),.row aO (w.heap.size) W3.heap.size (aN (p.take k) v m++[((g1,g2,g3,g4),q)]),.eq (.pointer (some ⟨og,0+m*1,none⟩))] [27,28,29,30,31,32,33,34,35,36] rfl rfl rfl rfl ⟨λ_ _ a _ _ _=>xM rfl (a 5 rfl),λ_ _ a _ _ _=>xM rfl (a 8 rfl),λ_ _ a _ _ _=>xM rfl (a 5 rfl),λ_ _ a _ _ _=>xM rfl (a 8 rfl),λ_ _ _ _ _ e=>pI rfl Tryz.underlying75 og 0 m (y) (e.1 rfl) (e.2.1 rfl),?_,λA _ hA hL _ _=>have h7:A.eval (.tmp 7)=.pointer (some ⟨r,0,none⟩):=hA 7 rfl;have c0:=((B3.lr hL b)).at1 0 _ rfl;have c1:=((B3.lr hL b)).at1 1 _ rfl;have c2:=((B3.lr hL b)).at1 2 _ rfl;have c3:=((B3.lr hL b)).at1 3 _ rfl;have c4:=((B3.lr hL b)).at1 4 _ rfl;have c5:=((B3.lr hL b)).at1 5 _ rfl;have c6:=((B3.lr hL b)).at1 6 _ rfl;have c7:=((B3.lr hL b)).at1 7 _ rfl;pZ rfl,?_,?_,λ_ _ _ _ _ e=>pI rfl Tryz.underlying75 og 0 m (y) (e.1 rfl) (e.2.1 rfl),trivial⟩ ?_
   ·intro A w1 hA hL hS he;have h31:=eT 31 (he.1 rfl);refine ae rfl ?_;have c0:=x w1 hL;exact aB rfl rfl gZ
   ·intro A w1 hA hL hS he;have hb:=hS rfl;have h33:=eT 33 (he.1 rfl);refine ae rfl ?_;have hE:(aO:El _).E w1 _ (((g1,g2,g3,g4),q)):=⟨_,rfl,(hrat3.on hb).cellsC⟩;refine fo rfl rfl ((l.okr).lr hL) hE (bu rfl ?_) (λ_ _ h=>h);simp only[List.map_toArray,List.map_cons,List.map_nil,h33];exact bK _ _ ((aO).len hE)
   ·intro A w1 hA hL hS he;have hb:=hS rfl;have h32:=eT 32 (he.1 rfl);obtain⟨v34,h34,f34⟩:=fT 34 (he.2.1 rfl);exact ae rfl (dL rfl rfl rfl Tryz.underlying27 bG h32 h34 (l.on hb) rfl rfl (dV f34) (by simp;omega) (Nat.le_trans hbW3.size hb.size) hL.1.size (λ_ _ h1 h2=>⟨h1,h2⟩))
   ·intro w5 hL;simp only[aT,af.eq,af.new1,af.row,af.of,af.fragile,lZ];rintro v34 - v35 ⟨hown5,a2⟩;go_frame;obtain⟨ca,n5,cc,rfl⟩:∃ca n cc,v35=.slice ca n cc:=let ⟨a,c,h,_⟩:=hown5.shape;⟨a,_,c,h⟩;have B:=hB3.lr hL I;have z:=B.at1 m cur o;have hf:=B.frozen m;have hR5:=hR3.set o hL hown5 a2;rw[<-bY]at hR5;have hbW5:=hbW3.trans (hL.belowAt hbW3.size (λk hk=>(L.out k hk).1));clear x l;go_wp2;have hl6:=aY (j:=m) B (.slice ca n5 cc);go_roundw
    case measure=>simp[intOf];omega
    case rel=>exact⟨k+1,_,oM,nM,by simp;exact a4,zH (B.set m _),zH (hR5.lr hl6 dM dM),hbW5.trans (hl6.belowAt hbW5.size (λk hk=>by cases hk;exact a3))⟩
  ·obtain rfl:k=p.length:=oM;go_wp2;go_ret;exact⟨og,vs,by rw[a4];rfl,hB.out,a3,hR.out,hb⟩
theorem wD(d:Value)(p:List ai)(v:Nat)(w:World)(hp:ak w d p)(hv:v<4)(i:dO p)(hd:aD p v<=100000000)(b:p.length<=100000000):Calls Tryz.prog 62 #[d,.int .i64 v] w (IA w (aA p v)) :=
 (ww d p v w hp hv i hd b).mono λ_ _ ⟨_,_,he,e,_,h,hb⟩=>⟨_,he,KT e h,hb⟩
end Go.Proofs.YtopclbeomcggiaaGreat
end
