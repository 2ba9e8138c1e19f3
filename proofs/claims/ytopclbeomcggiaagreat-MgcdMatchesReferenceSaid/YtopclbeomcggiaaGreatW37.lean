/- R8.Gcd. -/
import Derived.Test.YtopclbeomcggiaaGreatW35
import Derived.Test.YtopclbeomcggiaaGreatW36
set_option linter.unusedVariables false
set_option linter.unusedSimpArgs false
set_option maxHeartbeats 16000000
set_option maxRecDepth 100000
section
namespace Q
open Go Go.RowKit Go.Proofs.YtopclbeomcggiaaGreat
def nX (a r:List ai):Prop:=a=[]/\r=[]\/∃t l,a=t::l/\Wr (t::l)/\Rs (1/t.2)/\r=bN (t::l) (1/t.2)
def PQ (G:mH) (a:List ai) (v:Nat) (r:List ai):Prop:=∃p,aD a v<=900000/\a.length<=100000000/\N7 G a v p/\nX p r
def AB (G:mH) (v:Nat):Nat->List ai->List ai->List ai->Prop
 | 0,_,_,_=>False
 | n+1,p,q,r=>q=[]/\r=p\/q≠[]/\W8 p/\W8 q/\∃(m:Nat)(t:List ai),aD q v=(m:Int)/\m<=900000/\LF v m (aN q v (m:Int)) q (aD p v-m+1).toNat p /\
   PQ G (PN v m (aN q v (m:Int)) q (aD p v-m+1).toNat p) v t/\AB G v n q t r
def FO (G:mH):mH:=λa b r =>
 a=[]/\nX b r\/a≠[]/\b=[]/\nX a r\/a≠[]/\b≠[]/\W8 a/\W8 b/\(wS a b 4<0/\r=[(e0,(1:Rat))] \/
  ∃(v:Nat)(x y c p q s t:List ai)(bd:Int),v<4/\wS a b 4=(v:Int)/\mI G (aA a v) [] x/\mI G (aA b v) [] y/\G x y c/\PQ G a v p/\PQ G b v q/\W8 p/\W8 q/\p≠[]/\q≠[] /\
   (aD p v<aD q v/\s=q/\t=p\/¬aD p v<aD q v/\s=p/\t=q)/\kL s t v [0,1,2]=some bd /\
   (bd=0/\nX c r\/bd≠0/\∃(N:Nat)(z:List ai),AB G v N s t z/\z.length<=100000000/\(aD z v<1/\nX c r\/¬aD z v<1/\xX c z/\nX (aX c z) r)))
def tC:Nat->mH
 | 0=>λ_ _ _=>False
 | n+1=>FO (tC n)
end Q
namespace Go.Proofs.YtopclbeomcggiaaGreat
open Go.RowKit Q Go.WideMaps Go.Maps
theorem mK{b:Value}{a r:List ai}{w:World}(ha:ak w b a)(h:nX a r):Calls Tryz.prog 15 #[b] w (aS w r):=by
 rcases h with ⟨rfl,rfl⟩|⟨t,l,rfl,d,e,rfl⟩
 ·exact JX b w ha
 ·exact JY b t l w ha d e
theorem Pz(w:World):Calls Tryz.prog 58 #[] w (aS w [(e0,(1:Rat))]):=by
 have hc:=zH (λW v (hv:bM W v ((1:Int):Rat))=>wE v ((1:Int):Rat) ⟨1,1,0,1⟩ W hv ⟨sM,λt b=>by rw[List.mem_singleton.1 b];decide,λt b=>by rw[List.mem_singleton.1 b];exact Dv.int 1 1,dK⟩ dK);rw[show bZ ((1:Int):Rat)=[(e0,(1:Rat))]from by show bZ 1=_;decide +kernel]at hc
 go_enter Tryz.func58,Tryz.ntmps58
 go_wp2_with (first
  | (go_at_call 24;refine(gG 1 _ oM oM).mono ?_;rintro e w3 ⟨v3,rfl,h3,hb3⟩)
  | (go_at_call 72;refine(hc.out _ _ h3).mono ?_;rintro e w4 ⟨v4,rfl,h4,hb4⟩))
 go_ret;exact⟨_,rfl,h4,hb3.trans (hb4.mono hb3.size)⟩
theorem D5{a:List ai}(h:a≠[]):((a.length:Int)==0)=false:=by have:=List.length_pos_iff.2 h;simp;exact h
theorem PD{G:mH}(hG:FN G)(va vb:Value)(a b x y c p q s t r:List ai)(v:Nat)(D:Int)(w:World)(ha:ak w va a)(hb:ak w vb b)(na:a≠[])(nb:b≠[])(Y:W8 a)(kb:W8 b)(hv:v<4)(C:wS a b 4=(v:Int))
  (hx:mI G (aA a v) [] x) (hy:mI G (aA b v) [] y) (a4:G x y c) (hp:PQ G a v p) (hq:PQ G b v q) (kp:W8 p) (kq:W8 q) (np:p≠[]) (X:q≠[])
  (B:aD p v<aD q v/\s=q/\t=p\/¬aD p v<aD q v/\s=p/\t=q) (I:kL s t v [0,1,2]=some D)
  (hr:D=0/\nX c r\/D≠0/\∃(N:Nat)(z:List ai),AB G v N s t z/\z.length<=100000000/\(aD z v<1/\nX c r\/¬aD z v<1/\xX c z/\nX (aX c z) r)) :
  Calls Tryz.prog 17 #[va,vb] w (aS w r):=by
 have hT:=zH (JZ va vb a b w ha hb Y.w.len kb.w.len);rw[C]at hT;have a8:=D5 na;have a9:=D5 nb;obtain⟨p0,-,-,hp1,hp2⟩:=hp;obtain⟨q0,-,-,hq1,hq2⟩:=hq;have cA:=zH (λW (h:Below w.heap.size w W)=>oP hG va a x v W (ha.on h) hv (Y.deg v) Y.w.len hx);have cB:=zH (λW (h:Below w.heap.size w W)=>oP hG vb b y v W (hb.on h) hv (kb.deg v) kb.w.len hy);have pA:=zH (λW (h:Below w.heap.size w W)=>mJ hG va a p0 v W (ha.on h) hv (Y.deg v) Y.w.len hp1);have pB:=zH (λW (h:Below w.heap.size w W)=>mJ hG vb b q0 v W (hb.on h) hv (kb.deg v) kb.w.len hq1);have dP:=zH (λW u (h:ak W u p)=>kH u p v W h hv kp.w.len);have dQ:=zH (λW u (h:ak W u q)=>kH u q v W h hv kq.w.len)
 have hB:Hid (∀W u1 u2,ak W u1 s->ak W u2 t->Calls Tryz.prog 59 #[u1,u2,.int .i64 v] W (rE W (.int .i64 D))):=zH (λW u1 u2 h1 h2=>by
  rcases B with ⟨-,rfl,rfl⟩|⟨-,rfl,rfl⟩
  ·exact DZ u1 u2 _ _ v D W h1 h2 kq kp hv X np I
  ·exact DZ u1 u2 _ _ v D W h1 h2 kp kq hv np X I)
 have n:=zH (λW u1 u2 (h1:ak W u1 x) (h2:ak W u2 y)=>hG u1 u2 x y c W h1 h2 a4);obtain⟨aa,ca,rfl,-⟩:=ha.shape;obtain⟨ab,cb,rfl,-⟩:=hb.shape;have hv0:¬(v:Int)<0:=oM;replace hG:=zH hG;replace hr:=zH hr;replace B:=zH B;replace hp2:=zH hp2;replace hq2:=zH hq2;clear ha hb na nb Y kb hx hy a4 hp1 hq1 kp kq np X I C;generalize a.length=la at *;generalize b.length=lb at *
 go_enter Tryz.func17,Tryz.ntmps17
 go_upto_region 8 with (go_at_call 57;refine hT.out.mono ?_;rintro e w1 ⟨rfl,hb1⟩)
 go_upto_region 9 with (first
  | (go_at_call 17;refine(n.out w3 _ _ (h2.on hb3) h3).mono ?_;rintro e w4 ⟨v4,rfl,h4,hb4⟩;have y4:=y3.trans (hb4.mono y3.size))
  | (go_at_call 19;refine(cB.out w2 y2).mono ?_;rintro e w3 ⟨v3,rfl,h3,hb3⟩;have y3:=y2.trans (hb3.mono y2.size))
  | (go_at_call 19;refine(cA.out w1 hb1).mono ?_;rintro e w2 ⟨v2,rfl,h2,hb2⟩;have y2:=hb1.trans (hb2.mono hb1.size)))
 clear hT cA cB n hb1 hb2 hb3 hb4 h2 h3 y2 y3
 go_upto_region 10 with (first
  | (go_at_call 15;refine(mK h7 hq2.out).mono ?_;rintro e w8 ⟨v8,rfl,h8,hb8⟩;have y8:=y7.trans (hb8.mono y7.size))
  | (go_at_call 21;refine(pB.out w6 y6).mono ?_;rintro e w7 ⟨v7,rfl,h7,hb7⟩;have y7:=y6.trans (hb7.mono y6.size))
  | (go_at_call 15;refine(mK h5 hp2.out).mono ?_;rintro e w6 ⟨v6,rfl,h6,hb6⟩;have y6:=y5.trans (hb6.mono y5.size))
  | (go_at_call 21;refine(pA.out w4 y4).mono ?_;rintro e w5 ⟨v5,rfl,h5,hb5⟩;have y5:=y4.trans (hb5.mono y4.size)))
 have z7:=hb7.trans (hb8.mono hb7.size);have z6:=hb6.trans (z7.mono hb6.size);have z5:=hb5.trans (z6.mono hb5.size);have hc8:=zH (h4.on z5);have hp8:=zH (h6.on z7);have hq8:=zH h8;clear pA pB hb5 hb6 hb7 hb8 h4 h5 h6 h7 h8 z5 z6 z7 y4 y5 y6 y7 hp2 hq2
 go_upto_if 48 with (first
  | (go_at_call 27;refine(dQ.out w9 _ (hq8.out.on hb9)).mono ?_;rintro e w10 ⟨rfl,hb10⟩;have z10:=hb9.trans (hb10.mono hb9.size))
  | (go_at_call 27;refine(dP.out w8 _ hp8.out).mono ?_;rintro e w9 ⟨rfl,hb9⟩))
 have hc10:=zH (hc8.out.on z10);have hp10:=zH (hp8.out.on z10);have hq10:=zH (hq8.out.on z10);have y10:=y8.trans (z10.mono y8.size);clear hc8 hp8 hq8 hb9 hb10 z10 y8 dP dQ
 go_cut [7,8,49,50] (λvs vt _ _ wc=>Hid (ak wc vs s)/\Hid (ak wc vt t)/\Below w10.heap.size w10 wc)
 case first =>
  rcases B.out with ⟨L,rfl,rfl⟩|⟨L,rfl,rfl⟩
  ·generalize aD t v=x1 at *;generalize aD s v=x2 at *;go_wp2;go_meet
   case rel=>exact⟨hq10,hp10,Below.refl _ _⟩
  ·generalize aD s v=x1 at *;generalize aD t v=x2 at *;go_wp2;go_meet
   case rel=>exact⟨hp10,hq10,Below.refl _ _⟩
 case rest =>
  clear hp10 hq10 B;obtain⟨hs,ht,F⟩:=hcut;have J:=zH (hc10.out.on F);have yc:=y10.trans (F.mono y10.size);clear hc10 F y10;rcases hr.out with ⟨rfl,o⟩|⟨hb0,N,z,d,a5,i⟩
  ·replace o:=zH o
   go_wp2_with (first
    | (go_at_call 59;refine(hB.out wc _ _ hs.out ht.out).mono ?_;rintro e w11 ⟨rfl,hb11⟩)
    | (go_at_call 15;refine(mK (J.out.on hb11) o.out).mono ?_;rintro e w12 ⟨v12,rfl,h12,hb12⟩))
   go_ret;exact⟨_,rfl,h12,yc.trans ((hb11.trans (hb12.mono hb11.size)).mono yc.size)⟩
  ·have a7:(D==0)=false:=by simpa using hb0
   replace d:=zH d;replace i:=zH i
   go_upto_region 14 with (go_at_call 59;refine(hB.out wc _ _ hs.out ht.out).mono ?_;rintro e w11 ⟨rfl,hb11⟩)
   have hs1:=zH (hs.out.on hb11);have ht1:=zH (ht.out.on hb11);have hc1:=zH (J.out.on hb11);have y11:=yc.trans (hb11.mono yc.size);clear hs ht J hb11 yc hB hr hb0
   go_loopg [7,8] N (λj vp vq wr=>∃p q,Hid (ak wr vp p)/\Hid (ak wr vq q)/\Hid (AB G v j p q z)/\Below w11.heap.size w11 wr)
   case atStart=>exact⟨s,t,hs1,ht1,d,Below.refl _ _⟩
   case round =>
    clear hs1 ht1 d;obtain⟨p,q,hp,hq,d,k⟩:=hrel
    cases gk with
    | zero=>exact absurd d.out id
    | succ j =>
    rcases d.out with ⟨rfl,rfl⟩|⟨X,kp,kq,m,t',Z,hm9,a1,⟨p0,hd0,hl0,a2,M⟩,l⟩
    ·obtain⟨aq,cq,rfl,-⟩:=hq.out.shape;simp only[List.length_nil];have a0:=kH _ z v wr hp.out hv a5;have yr:=y11.trans (k.mono y11.size);rcases i.out with ⟨L,o⟩|⟨L,hm,o⟩
     ·replace o:=zH o;clear i d;generalize aD z v=x1 at *
      go_wp2_with (first
       | (go_at_call 27;refine a0.mono ?_;rintro e w12 ⟨rfl,hb12⟩)
       | (go_at_call 15;refine(mK (hc1.out.on (k.trans (hb12.mono k.size))) o.out).mono ?_;rintro e w13 ⟨v13,rfl,h13,hb13⟩))
      go_ret;exact⟨_,rfl,h13,yr.trans ((hb12.trans (hb13.mono hb12.size)).mono yr.size)⟩
     ·replace o:=zH o;clear i d;generalize aD z v=x1 at *
      go_wp2_with (first
       | (go_at_call 27;refine a0.mono ?_;rintro e w12 ⟨rfl,hb12⟩;have z12:=k.trans (hb12.mono k.size))
       | (go_at_call 12;refine(Jd hm.wp hm.wq hm.ms hm.ti (hc1.out.on z12) (hp.out.on hb12)).mono ?_;rintro e w13 ⟨v13,rfl,h13,hb13⟩)
       | (go_at_call 15;refine(mK h13 o.out).mono ?_;rintro e w14 ⟨v14,rfl,h14,hb14⟩))
      go_ret;exact⟨_,rfl,h14,yr.trans ((hb12.trans ((hb13.trans (hb14.mono hb13.size)).mono hb12.size)).mono yr.size)⟩
    ·have S:=Jq _ _ p q v m wr hp.out hq.out hv kp.w.len kq.w.len X Z (kp.deg v) hm9 a1;have ac:=List.length_pos_iff.2 X;obtain⟨aq,cq,rfl,-⟩:=hq.out.shape;have a6:(0:Int)<(q.length:Int):=oM;have a3:=zH (λW u (h:ak W u (PN v m (aN q v (m:Int)) q (aD p v - m+1).toNat p))=>mJ hG.out u _ p0 v W h hv hd0 hl0 a2);generalize PN v m (aN q v (m:Int)) q (aD p v - m+1).toNat p=R1 at *;replace M:=zH M;replace l:=zH l;replace S:=zH S;clear d a1 Z kp kq X a2 hd0 hl0
     go_wp2_with (first
      | (go_at_call 60;refine S.out.mono ?_;rintro e w12 ⟨v12,rfl,h12,hb12⟩)
      | (go_at_call 21;refine(a3.out w12 _ h12).mono ?_;rintro e w13 ⟨v13,rfl,h13,hb13⟩)
      | (go_at_call 15;refine(mK h13 M.out).mono ?_;rintro e w14 ⟨v14,rfl,h14,hb14⟩))
     have z14:=hb12.trans ((hb13.trans (hb14.mono hb13.size)).mono hb12.size);go_roundg j
     case measure=>omega
     case rel=>exact⟨q,t',zH (hq.out.on z14),zH h14,l,k.trans (z14.mono k.size)⟩
theorem Mo{G:mH}(hG:FN G):FN (FO G):=by
 intro B C a b r w ha hb h;rcases h with ⟨rfl,h⟩|⟨d,rfl,h⟩|⟨d,o,n,kb,h⟩
 ·obtain⟨u,z,rfl,-⟩:=ha.shape;simp only[List.length_nil];replace h:=zH h;replace hb:=zH hb;clear ha
  go_enter Tryz.func17,Tryz.ntmps17
  go_wp2_with (go_at_call 15;refine(mK hb.out h.out).mono ?_;rintro e w2 ⟨v2,rfl,h2,hb2⟩)
  go_ret;exact⟨_,rfl,h2,hb2⟩
 ·have k:=D5 d;have hN:=zH (mK ha h);obtain⟨u,z,rfl,-⟩:=ha.shape;obtain⟨D,I,rfl,-⟩:=hb.shape;simp only[List.length_nil];generalize a.length=la at *;clear ha hb d h
  go_enter Tryz.func17,Tryz.ntmps17
  go_wp2_with (go_at_call 15;refine hN.out.mono ?_;rintro e w2 ⟨v2,rfl,h2,hb2⟩)
  go_ret;exact⟨_,rfl,h2,hb2⟩
 ·rcases h with ⟨X,rfl⟩|⟨v,x,y,c,p,q,s,t,F,hv,i,L,M,m,hp,hq,kp,kq,N,S,l,j,hr⟩
  ·have hT:=zH (JZ B C a b w ha hb n.w.len kb.w.len);have k:=D5 d;have J:=D5 o;obtain⟨u,z,rfl,-⟩:=ha.shape;obtain⟨D,I,rfl,-⟩:=hb.shape;generalize wS a b 4=tv at *;generalize a.length=la at *;generalize b.length=lb at *;clear ha hb n kb d o
   go_enter Tryz.func17,Tryz.ntmps17
   go_wp2_with (first
    | (go_at_call 57;refine hT.out.mono ?_;rintro e w2 ⟨rfl,hb2⟩)
    | (go_at_call 58;refine(Pz _).mono ?_;rintro e w3 ⟨v3,rfl,h3,hb3⟩))
   go_ret;exact⟨_,rfl,h3,hb2.trans (hb3.mono hb2.size)⟩
  ·exact PD hG B C a b x y c p q s t r v F w ha hb d o n kb hv i L M m hp hq kp kq N S l j hr
theorem FP:∀n,FN (tC n)
 | 0=>λ_ _ _ _ _ _ _ _ h=>absurd h id
 | n+1=>Mo (FP n)
end Go.Proofs.YtopclbeomcggiaaGreat
end
section
namespace Q
open MP Go.Proofs.YtopclbeomcggiaaGreat
theorem Wx{D H b:Nat}{x:Rat}(e:0<D)(h:Dv D x)(l:(D:Rat)*bH x<=(H:Rat))(j:D<=2^b)(k:H<=2^b)(hb:b<7900000000):Rs x:=by obtain⟨e1,d⟩:=Me e h;rw[Q.rabs_int]at d;have i:x.num.natAbs<=H:=Rat.natCast_le_natCast.1 (Rat.le_trans d l);have b1:=Bb (Nat.le_trans (Nat.le_of_dvd e e1) j);have m:=Bb (Nat.le_trans i k);exact⟨oM,oM⟩
theorem U3{b:Nat}{p:MP}(m:In b p)(hb:b<7900000000):∀t∈p.l,Rs t.2:=λt h=>by obtain⟨D,H,i,j,k,e⟩:=m;refine Wx i (e.d t h) (Rat.le_trans (Rat.mul_le_mul_of_nonneg_left (tN h) (bQ D)) e.a) j k hb
theorem mq{d:Nat->Nat}{b:Nat}{p:MP}(hd:Dg d p)(i:In b p)(o:bx d<=10000)(hb:b<7900000000):W8 p.l:=by
 have h:=UY d
 have hp:∀t∈p.l,0<=t.1.1/\t.1.1<=10000/\0<=t.1.2.1/\t.1.2.1<=10000/\0<=t.1.2.2.1/\t.1.2.2.1<=10000/\0<=t.1.2.2.2/\t.1.2.2.2<=10000:=λt e=>by obtain⟨j,k,m,n,q,n1,n2,r⟩:=(hd.inB t e).parts;omega
 refine⟨⟨p.v,U3 i hb,λt e=>?_,Nat.le_trans hd.len oM⟩,λt e u=>?_⟩
 ·have:=hp t e;refine InR.of (K:=10000) oM ?_;omega
 ·have:=hp t e;rcases u with _|_|_|u<;>simp only[Ex.get]<;>omega
theorem oQ{d:Nat->Nat}{b:Nat}{p:MP}(hd:Dg d p)(n:In b p)(u:bx d<=10000)(hb:b<7900000000):nX p.l (nrm p).l:=by
 by_cases i:p=0
 ·rw[i,jM];exact .inl ⟨rfl,rfl⟩
 ·obtain⟨t,l,e⟩:=jg i;have k:=(mq hd n u hb).w;have m:=n.inv i;rw[yn e]at m;have s:t.2≠0:=(p.v.2 t (by rw[e];simp)).1
  have j:(MP.c (1/t.2)).l=[(e0,1/t.2)]:=by
   have:(1/t.2:Rat)≠0:=by intro h;have q:(1/t.2)*t.2=1:=gR;rw[h]at q;grind
   show bZ (1/t.2)=_;rw[bZ,if_neg this]
  have r:=U3 m hb (e0,1/t.2) (by rw[j];simp);have o:(nrm p).l=bN p.l (1/t.2):=by rw[nrm,yn e,sO]
  rw[o,e];rw[e]at k;exact .inr ⟨t,l,rfl,k,r,rfl⟩
theorem Su{b:Nat}{p q:MP}(h:In b p)(i:q.l.Sublist p.l):In b q:=by obtain⟨D,H,j,k,m,e⟩:=h;exact⟨D,H,j,k,m,λt n=>e.d t (i.subset n),Rat.le_trans (Rat.mul_le_mul_of_nonneg_left (yo i) (bQ D)) e.a⟩
theorem Sv{b d:Nat}{p q:MP}(h:In b p)(m:In d q):In (b+d) (p*q):=by obtain⟨D,H,n,o,r,s⟩:=h;obtain⟨e,i,g1,j,k,l⟩:=m;exact⟨D*e,H*i,Nat.mul_pos n g1,by rw[Nat.pow_add];exact Nat.mul_le_mul o j,by rw[Nat.pow_add];exact Nat.mul_le_mul r k,s.mul l⟩
theorem Sw{d:Nat->Nat}{p q:MP}(h:Dg d p)(b:q.l.Sublist p.l):Dg d q:=NL λt e=>h.inB t (b.subset e)
theorem Hl{dp dq d:Nat->Nat}{p q:MP}(hp:Dg dp p)(hq:Dg dq q)(hd:∀w,w<4->dp w+dq w<=d w):Dg d (p*q):=λw b=>by have e:=hp w b;have h:=hq w b;have i:=hd w b;exact Int.le_trans (bT w p q e h oM) oM
theorem sW{dp dq d:Nat->Nat}{b s:Nat}{p q:MP}(hp:Dg dp p)(hq:Dg dq q)(hd:∀w,w<4->dp w+dq w<=d w)(ip:In b p)(y:In s q)(o:bx d<=10000)(hb:b+s < 7900000000):xX p.l q.l:=by
 have hsub:∀r:MP,r.l.Sublist q.l->W8 (p*r).l:=λr x=>mq (Hl hp (Sw hq x) hd) (Sv ip (Su y x)) o hb;have j:Dg d p:=λw i=>by have e:=hp w i;have h:=hd w i;omega
 have m:Dg d q:=λw i=>by have e:=hq w i;have h:=hd w i;omega
 have wp:=mq j ip o oM;have wq:=mq m y o oM;refine⟨wp.w,wq.w,λk=>(hsub ⟨q.l.take k,q.v.sublist (List.take_sublist _ _)⟩ (List.take_sublist _ _)).w,λu hu=>⟨?_,λt F=>?_⟩⟩
 ·have n:[u].Sublist q.l:=List.singleton_sublist.2 hu;rw[zL p.v (q.v.sublist n)];exact(hsub ⟨[u],q.v.sublist n⟩ n).w
 ·have e:=wp.exps t F;have h:=wq.exps u hu;have z:=e 0;have B:=e 1;have C:=e 2;have D:=e 3;have c0:=h 0;have c1:=h 1;have c2:=h 2;have E:=h 3;simp only[Ex.get]at z B C D c0 c1 c2 E;refine InR.of (K:=2000000) oM ?_;simp only[Ex.add];omega
theorem N8{g:ai}{ts:List ai}(hb:Wr (g::ts)):∀(s out:List ai),bR s->(∀e:List ai,e.Sublist s->Wr (aX e (g::ts)))->(∀x∈s,Wr [x]/\Wr (aX (g::ts) [x])/\∀t∈g::ts,InR (t.1.add x.1))->out.length+s.length<=100000000 ->
  wR (g::ts) g s.length (aX s (g::ts)) out (some (out++s))
 | [],out,_,_,_,_=>by rw[List.append_nil];exact .done
 | x::s,out,vs,hm,hx,hn=>by have hz:=(hb.v.2 g sM).1;have d:=vs.2 x sM;obtain⟨x1,x2,p⟩:=hx x sM;obtain⟨l,m⟩:=AZ vs hb.v;obtain⟨a,ha⟩:=AY (bR.mul _ _) (jw d.1 hz) l m;have k:=hm (x::s) (List.Sublist.refl _);have o:=N8 hb s (out++[x]) vs.tail (λe h=>hm e (h.trans (List.sublist_cons_self _ _))) (λt n=>hx t (by simp[n])) (by simp at hn ⊢;omega);have i:=CL vs hb.v bR.nil;rw[xR (bR.mul _ _),xR (bR.mul _ _)]at i;rw[ha]at k i ⊢;have b:=CK (x:=x) hz;have j:((x.1.add g.1).sub g.1)=x.1:=congrArg Prod.fst b;refine .step (by show((x.1.add g.1).sub g.1).nat=true;rw[j];exact d.2) k (by show InR ((x.1.add g.1).sub g.1);rw[j];exact x1.ir x sM) (by rw[b];exact x1) (by rw[b];exact x2) (by rw[b];exact p) (by simp at hn;omega) ?_;rw[b,i];simpa using o
theorem N9{dq dz d:Nat->Nat}{b k:Nat}{q z:MP}{g:ai}{ts:List ai}(i:z.l=g::ts)(hq:Dg dq q)(hz:Dg dz z)(hd:∀w,w<4->dq w+dz w<=d w)(o:In b q)(B:In k z)(n:bx d<=10000)(hb:b+k<7900000000) :
  Wr (g::ts)/\wR (g::ts) g q.l.length (q*z).l [] (some q.l):=by
 have D:=sW hq hz hd o B n hb;have s:Dg d q:=λw m=>by have E:=hq w m;have F:=hd w m;omega
 have wq:=mq s o n oM;have C:Wr (g::ts):=i▸D.wq;refine⟨C,?_⟩
 have u:∀r:List ai,r.Sublist q.l->Wr (aX r (g::ts)):=λr h=>by have:=(sW (p:=⟨r,q.v.sublist h⟩) (Sw hq h) hz hd (Su o h) B n hb).ms z.l.length;rw[tL (nL _),i]at this;exact this
 have y:=sW hz hq (λw m=>by have:=hd w m;omega) B o n oM;have:=N8 C q.l [] q.v u (λx j=>?_) (by simpa using wq.w.len)
 ·have e:(q*z).l=aX q.l (g::ts):=by rw[<-i];rfl
  rw[e];simpa using this
 ·obtain⟨t1,t2⟩:=y.ti x j;have h:[x].Sublist q.l:=List.singleton_sublist.2 j;rw[zL z.v (q.v.sublist h),i]at t1;rw[i]at t2;exact⟨wq.w.sub h,t1,t2⟩
def zM (d:Nat->Nat) (b:Nat) (G:mH):Prop:=∀x y:MP,Dg d x->Dg d y->In b x->In b y->∃g:MP,G x.l y.l g.l/\NG g x y
def XU (G:mH):Prop:=∀(d:Nat->Nat)(b:Nat)(x:MP),Dg d x->In b x->bx d<=10000->b<7900000000->G [] x.l (nrm x).l
theorem J2{v x:Nat}{L:nD}(h:qA v L)(F:x<=L.br){G:mH}(D:zM (dN v L.E 0) L.bE G):∀(l:List (List ai))(b:MP),(∀c∈l,XI v L x c) ->
  (b=0\/(hd b=1/\∃f:MP,f≠0/\b∣f/\Dg (dN v L.E 0) f/\In x f)) ->
  ∃g:MP,mI G l b.l g.l/\g∣b/\(∀f:MP,f.l∈l->g∣f)/\(∀d,d∣b->(∀f:MP,f.l∈l->d∣f)->d∣g)/\(g≠0->hd g=1)
 | [],b,_,ha=>⟨b,rfl,dvd_refl _,λf hf=>(by cases hf),λd h _=>h,λs=>ha.elim (λe=>absurd e s) λe=>e.1⟩
 | c::l,b,hl,ha=>by
  obtain⟨f,rfl,C,hf⟩:=hl c sM
  have j:Dg (dN v L.E 0) b/\In L.bE b:=by
   rcases ha with e|⟨y,p,f0,o,z,B⟩
   ·rw[e];exact⟨λw _=>by rw[deg_zero];omega,In.zero _⟩
   ·obtain⟨I,J⟩:=rD h y f0 o z B;exact⟨I,J.mono (NR F)⟩
  obtain⟨g,K,hg⟩:=D b f j.1 C j.2 (hf.mono (by unfold nD.bE;omega))
  obtain⟨k,e,H,M,N,O⟩:=J2 h F D l g (λc hc=>hl c (by simp[hc])) (by
   by_cases q:g=0
   ·exact .inl q
   ·refine .inr ⟨hg.n q,?_⟩;by_cases f0:f=0
    ·rcases ha with e|⟨-,p,s,o,z,B⟩
     ·exact absurd (zero_dvd (hg.i.u 0 (by rw[e];exact dvd_refl 0) (by rw[f0];exact dvd_refl 0))) q
     ·exact⟨p,s,dvd_trans hg.i.l o,z,B⟩
    ·exact⟨f,f0,hg.i.r,C,hf⟩)
  refine⟨k,⟨g.l,K,e⟩,dvd_trans H hg.i.l,λp m=>?_,λd y o=>N d (hg.i.u d y (o f sM)) λf hf=>o f (by simp[hf]),O⟩;rcases List.mem_cons.1 m with e|m
  ·rw[MP.eq_of e];exact dvd_trans H hg.i.r
  ·exact M p m
theorem Oa{v:Nat}{a g:MP}(k:∀f:MP,f.l∈aA a.l v->g∣f)(j:∀d,d∣0->(∀f:MP,f.l∈aA a.l v->d∣f)->d∣g):um v g a:=by
 have b:∀n,g∣a.co v n:=λn=>by
  rcases Nat.lt_or_ge n (aD a.l v+1).toNat with h|h
  ·refine k _ ?_;show aN a.l v n∈aA a.l v;exact List.mem_map.2 ⟨n,List.mem_range.2 h,rfl⟩
  ·rw[co_above (by have e:a.deg v=aD a.l v:=rfl;have:=deg_ge v a;omega)];exact dvd_zero g
 have hf:g.fr v:=by
  by_cases ha:a=0
  ·have:g=0:=by
    have m:=j 0 (dvd_refl 0) λf hf=>by rw[ha]at hf;cases hf
    exact zero_dvd m
   rw[this];exact oJ v
  ·exact rW (lc_ne ha v) (b _) (lc_fr v a)
 refine⟨hf,(dvd_iff_co hf a).2 b,λd hd i=>j d (dvd_zero d) λf hf=>?_⟩;obtain⟨n,h⟩:=eu hf;have:f=a.co v n:=MP.eq_of h;rw[this];exact(dvd_iff_co hd a).1 i n
theorem D6{v x:Nat}{L:nD}(h:qA v L)(u:x<=L.br){G:mH}(r:zM (dN v L.E 0) L.bE G){a:MP}(o:a.lo (v+1))(ha:∀w,w<v->a.deg w<=L.E)(m:In x a) :
  ∃g:MP,mI G (aA a.l v) [] g.l/\um v g a/\(g≠0->hd g=1)/\(a≠0->Dg (dN v L.E 0) g/\In (L.cz v x) g):=by
 obtain⟨g,s,-,b,q,k⟩:=J2 h u r (aA a.l v) 0 (λc hc=>by
  obtain⟨n,e⟩:=eu hc;obtain⟨i,b⟩:=zK h o ha m n
  exact⟨a.co v n,e.symm,i,b⟩) (.inl rfl)
 have hg:=Oa b q;refine⟨g,s,hg,k,λj=>?_⟩;have p:=dvd_ne j hg.d;obtain⟨i,b⟩:=zK h o ha m (a.deg v).toNat;exact rD h (k p) (lc_ne j v) ((dvd_iff_co hg.f a).1 hg.d _) i b
theorem Hm{v:Nat}{G:mH}{a g q:MP}{d:Nat->Nat}{b k:Nat}(i:a≠0)(hc:mI G (aA a.l v) [] g.l)(e:a=q*g)
  (ha:Dg d a) (p:In b q) (x:In k g) (o:bx d<=10000) (hb:b+k<7900000000) (hv:v<4) :
  PQ G a.l v (nrm q).l:=by
 have r:q≠0:=λh=>i (by rw[e,h];grind);have j:g≠0:=λh=>i (by rw[e,h];grind);have n:Dg d q:=ha.dvd i ⟨g,e⟩
 have z:∀w,w<4->(q.deg w).toNat+(g.deg w).toNat<=d w:=λw B=>by have m:=ha w B;rw[e,deg_mul r j]at m;have:=deg_pos r w;have:=deg_pos j w;omega
 obtain⟨t,l,s⟩:=jg j;obtain⟨m,y⟩:=N9 s (dq:=λw=>(q.deg w).toNat) (dz:=λw=>(g.deg w).toNat) (λw _=>by show q.deg w<=((q.deg w).toNat:Int);have:=deg_pos r w;omega) (λw _=>by show g.deg w<=((g.deg w).toNat:Int);have:=deg_pos j w;omega) z p x o hb;have u:=mq ha (by rw[e];exact Sv p x) o hb;refine⟨q.l,u.deg v,u.w.len,?_,oQ n p o oM⟩;refine .inr ⟨λh=>i (zero_iff.2 h),t,l,q.l.length,by rw[<-s];exact hc,m,by rw[e];exact y⟩
theorem XV(v i:Nat):qP (rG v) i=(xk v i).l:=by
 have e:(⟨qP (rG v) i,bR.pow _ _⟩:MP)=xk v i:=ext' λx=>by rw[ev_xk];show ev x (qP (rG v) i)=_;rw[ev_pow x (bR.var v).nat,PW]
 exact congrArg MP.l e
theorem Sy(v i:Nat):qO 1 1 (xk v i):=by
 refine⟨λt b=>?_,?_⟩
 ·have b:t∈[(e0.put v i,(1:Rat))]:=b;rw[List.mem_singleton.1 b];exact⟨1,by show(1:Rat)*((1:Nat):Rat)=((1:Int):Rat);decide +kernel⟩
 ·show((1:Nat):Rat)*(bH 1+0)<=((1:Nat):Rat);decide +kernel
theorem U4(v i:Nat):In 0 (xk v i):=⟨1,1,oM,sM,sM,Sy v i⟩
theorem U5{v i:Nat}(hv:v<4):Dg (dN v 0 i) (xk v i):=λw b=>by
 unfold dN;by_cases h:w=v
 ·subst h;rw[if_neg oM,if_pos rfl,deg_xk];omega
 ·rw[qX b hv (λe=>h e.symm)];omega
theorem U6{v x t:Nat}(hv:v<4){p:MP}(h:Dg (dN v x t) p)(n:Nat):Dg (dN v x 0) (p.co v n):=λw i=>by
 have b:=qW v n p i hv (h w i);unfold dN at *;split
 ·rename_i d;rwa[if_pos d]at b
 ·rename_i d;by_cases e:w=v
  ·subst e;have:(p.co w n).deg w<=0:=co_fr w n p;rw[if_pos rfl];omega
  ·rw[if_neg d,if_neg e]at b;rw[if_neg e];exact b
theorem tF{v x t x' t':Nat}(hv:v<4)(d:x<=x')(b:t<=t')(h:(t'+1)*(x'+1)^v<=10000):bx (dN v x t)<=10000:=by rw[zJ hv];exact Nat.le_trans (Nat.mul_le_mul oM (Nat.pow_le_pow_left oM v)) h
theorem vG{v x t x' t' X T:Nat}(d:x+x'<=X)(b:t+t'<=T)(w:Nat):dN v x t w+dN v x' t' w<=dN v X T w:=by
 unfold dN;split
 ·exact d
 ·split
  ·exact b
  ·omega
theorem Ut{v n i A al M X B:Nat}{y x:MP}(hv:v<4)(hn:y.deg v=(n:Int))(o:Dg (dN v A n) y)(h:In al y)(m:Dg (dN v X M) x)(b:In B x)(hM:n+i<=M)(hx:x.deg v<((n+i+1:Nat):Int))(hb:(M+1)*(X+A+1)^v<=10000)(hs:B+(al+1)<7900000000) :
  xX (x.co v (n+i)).l (qP (rG v) i)/\xX (y.co v n).l x.l/\xX (De v n x.l i) y.l/\Wr (aX (y.co v n).l x.l)/\Wr (aX (De v n x.l i) y.l) /\
   ∃z:MP,Df v n (y.co v n).l y.l x.l i=z.l/\z=y.co v n*x-(x.co v (n+i)*xk v i)*y/\Dg (dN v (X+A) M) z/\In (B+(al+1)) z/\z.deg v<((n+i:Nat):Int):=by
 have F:De v n x.l i=(x.co v (n+i)*xk v i).l:=by rw[De,XV];rfl
 have u:=U6 hv o n;have C:=U6 hv m (n+i);have I:=h.co v n;have J:=b.co v (n+i);have E:Dg (dN v X i) (x.co v (n+i)*xk v i):=Hl C (U5 hv) λw _=>vG oM oM w;have K:In B (x.co v (n+i)*xk v i):=(J.mul (U4 v i)).mono oM;have m1:xX (x.co v (n+i)).l (xk v i).l:=sW (d:=dN v X i) C (U5 hv) (λw _=>vG oM oM w) J (U4 v i) (tF hv oM oM hb) oM;have m2:xX (y.co v n).l x.l:=sW (d:=dN v (X+A) M) u m (λw _=>vG oM oM w) I b (tF hv (nL _) (nL _) hb) oM;have m3:xX (x.co v (n+i)*xk v i).l y.l:=sW (d:=dN v (X+A) M) E o (λw _=>vG oM oM w) K h (tF hv (nL _) (nL _) hb) oM;have d2:Dg (dN v (X+A) M) (y.co v n*x):=Hl u m λw _=>vG oM oM w;have d3:Dg (dN v (X+A) M) (x.co v (n+i)*xk v i*y):=Hl E o λw _=>vG oM oM w;have w2:Wr (aX (y.co v n).l x.l):=(mq d2 (I.mul b) (tF hv (nL _) (nL _) hb) oM).w;have w3:Wr (aX (x.co v (n+i)*xk v i).l y.l):=(mq d3 (K.mul h) (tF hv (nL _) (nL _) hb) oM).w;rw[XV,F];refine⟨m1,m2,m3,w2,w3,y.co v n*x-(x.co v (n+i)*xk v i)*y,?_,rfl,λw G=>?_,?_,?_⟩
 ·rw[Df,F];rfl
 ·have h1:=d2 w G;have h2:=d3 w G;have h3:=mX w (y.co v n*x) ((x.co v (n+i)*xk v i)*y);omega
 ·obtain⟨D,H,N,O,R,r⟩:=b;obtain⟨q,j,b1,S,W,s⟩:=h;have Z:=(s.co v n).mul r;have L:=((r.co v (n+i)).mul (Sy v i)).mul s;rw[nU,nU,Nat.mul_comm D q,Nat.mul_comm H j]at L;have g1:=Nat.mul_le_mul S O;have Y:=Nat.mul_le_mul W R;rw[<-Nat.pow_add]at g1 Y
  have g3:2^(al+B)+2^(al+B)=2^(B+(al+1)):=by rw[(oM:B+(al+1)=(al+B)+1),Nat.pow_succ];omega
  exact⟨q*D,j*H+j*H,Nat.mul_pos b1 N,oM,oM,Z.sub L⟩
 ·have h0:(y.co v n*x-(x.co v (n+i)*xk v i)*y).deg v<=((n+i:Nat):Int)-1:=by
   refine deg_le_of oM λk hk=>?_;rw[co_sub,co_mul_fr (co_fr v n y),(gR:(x.co v (n+i)*xk v i)*y=x.co v (n+i)*(xk v i*y)),co_mul_fr (co_fr v (n+i) x),co_xk,if_pos oM];rcases Nat.eq_or_lt_of_le (oM:n+i<=k)with e|hlt
   ·rw[<-e,(oM:n+i-i=n)];grind
   ·rw[co_above (p:=x) (n:=k) oM,co_above (p:=y) (n:=k-i) oM];grind
  omega
theorem Mq{v n A al M:Nat}{y:MP}(hv:v<4)(p:y.deg v=(n:Int))(e:Dg (dN v A n) y)(q:In al y):∀(i X B:Nat)(x:MP),Dg (dN v X M) x->In B x->n+i<=M+1->x.deg v<((n+i:Nat):Int)->(M+1)*(X+i*A+1)^v<=10000->B+i*(al+1)<7900000000 ->
  LF v n (y.co v n).l y.l i x.l/\∃r:MP,PN v n (y.co v n).l y.l i x.l=r.l/\Dg (dN v (X+i*A) M) r/\In (B+i*(al+1)) r/\r.deg v<(n:Int)/\∃(t:MP)(s:Nat),(y.co v n)^s*x=t*y+r
 | 0,X,B,x,dx,ix,hM,hx,hb,hs=>by
  rw[Nat.zero_mul,Nat.add_zero]at hb hs;rw[Nat.zero_mul,Nat.add_zero,Nat.zero_mul,Nat.add_zero];refine⟨?_,x,rfl,dx,ix,hx,0,0,?_⟩
  ·have m:=dx.len;have o:=tF hv (nL X) (nL M) hb;show x.l.length<=100000000;omega
  ·have b:(y.co v n)^0=1:=gR;rw[b];grind
 | i+1,X,B,x,dx,ix,hM,hx,hb,hs=>by
  have h:X+(i+1)*A=X+A+i*A:=by rw[Nat.add_mul,Nat.one_mul];omega
  have j:B+(i+1)*(al+1)=B+(al+1)+i*(al+1):=by rw[Nat.add_mul,Nat.one_mul];omega
  rw[h]at hb;rw[j]at hs;rw[h,j];obtain⟨m1,I,J,K,L,z,k,d,dz,H,hz⟩:=Ut (i:=i) hv p e q dx ix oM (by rw[Nat.add_assoc];exact hx) (Nat.le_trans (Nat.mul_le_mul_left _ (Nat.pow_le_pow_left oM v)) hb) oM;obtain⟨m,r,o,C,D,E,t,s,F⟩:=Mq hv p e q i (X+A) (B+(al+1)) z dz H oM hz hb hs;have G:M+1<=10000:=Nat.le_trans (Nat.le_mul_of_pos_right _ (Nat.pow_pos oM)) hb;refine⟨⟨oM,m1,I,J,K,L,by rw[k];exact m⟩,r,by rw[PN,k];exact o,C,D,E,t+(y.co v n)^s*(x.co v (n+i)*xk v i),s+1,?_⟩;have b:(y.co v n)^(s+1)=(y.co v n)^s*y.co v n:=gR;rw[b];have u:(y.co v n)^s*y.co v n*x=(y.co v n)^s*z+(y.co v n)^s*(x.co v (n+i)*xk v i)*y:=by rw[d];grind
  rw[u,F];grind
structure Uu (v:Nat) (L:nD) (pb:Nat):Prop where
 q1:(L.M+1)*(L.b1 v+1)<=pb
 qk:∀k,k<L.M+1->2<=k->(k+1)*(L.mu v (L.U k)+1)<=pb
 z:pb+(if v=0 then 0 else pb)<7900000000
 x1:L.br+L.mu v (2*L.M)+L.cz v L.br<7900000000
 x2:L.b1 v+L.cz v L.b<7900000000
 fin:L.bE+L.mu v (2*L.M)<7900000000
 w1:L.mu v (2*L.M)+(L.M+1)<7900000000
theorem Ob(G:mH)(v:Nat):PQ G [] v []:=⟨[],by show(-1:Int)<=900000;omega,sM,.inl ⟨rfl,rfl⟩,.inl ⟨rfl,rfl⟩⟩
theorem J3(G:mH)(v n:Nat)(p:List ai):AB G v (n+1) p [] p:=.inl ⟨rfl,rfl⟩
theorem J4{v X B M:Nat}{G:mH}{x:MP}(hv:v<4)(s:x≠0)(b:Dg (dN v X M) x)(d:In B x)(hb:(M+1)*(X+1)^v<=10000)(y:B+(M+1)<7900000000)(n:Nat):AB G v (n+2) x.l (1:MP).l (1:MP).l:=by
 obtain⟨k,m⟩:∃k:Nat,x.deg v=k:=⟨(x.deg v).toNat,by have:=deg_pos s v;omega⟩;have o:=b.top hv;have d1:Dg (dN v 0 0) (1:MP):=λw _=>by rw[AO];omega
 obtain⟨i,r,j,-,-,u,-⟩:=Mq (M:=M) (n:=0) hv (AO v) d1 (In.one 0) (k+1) X B x b d oM oM (by rw[Nat.mul_zero,Nat.add_zero];exact hb) (by rw[Nat.zero_add,nU];omega);have p:r=0:=Classical.byContradiction λh=>by have:=deg_pos h v;omega
 have q:=mq b d (tF hv (nL _) (nL _) hb) oM;have w1:W8 (1:MP).l:=mq d1 (In.one 0) (tF hv (Nat.zero_le X) (Nat.zero_le M) hb) oM;have e1:aD x.l v=k:=m;have es:(aD x.l v-((0:Nat):Int)+1).toNat=k+1:=oM;refine .inr ⟨λh=>one_ne (zero_iff.2 h),q,w1,0,[],AO v,oM,by rw[es];exact i,?_,J3 G v n _⟩;have e:PN v 0 (aN (1:MP).l v ((0:Nat):Int)) (1:MP).l (aD x.l v-((0:Nat):Int)+1).toNat x.l=[]:=by rw[es];exact j.trans (by rw[p];rfl)
 rw[e];exact Ob G v
theorem PE{a:MP}(h:a≠0):nrm (c (hd a))=1:=by have e:c (hd a)*1=c (hd a):=gR;rw[<-e,yt (vN h),Bc uK]
theorem Uv{v X B:Nat}{G:mH}{r:MP}(j:XU G)(hv:v<4)(b:r≠0)(k:r.deg v<=0)(h:Dg (dN v X 0) r)(ir:In B r)(hb:(X+1)^v<=10000)(i:B+(if v=0 then 0 else B)<7900000000):PQ G r.l v (1:MP).l:=by
 have d:bx (dN v X 0)<=10000:=by rw[zJ hv];omega
 have hc:mI G (aA r.l v) [] (nrm r).l:=by
  have m:=deg_pos b v;have e0:aD r.l v=r.deg v:=rfl
  have e1:aA r.l v=[r.l]:=by unfold aA;rw[(oM:(aD r.l v+1).toNat=1)];show [(r.co v 0).l]=_;rw[Gj k]
  rw[e1];exact⟨_,j _ _ r h ir d oM,rfl⟩
 have hz:In (if v=0 then 0 else B) (nrm r):=by
  split
  ·rename_i e;subst e;obtain⟨s,rfl⟩:=ku h.lo0;have i:s≠0:=λe=>b (by rw[e,Cn]);have e:c s*1=c s:=gR;rw[<-e,yt i,Bc uK];exact In.one 0
  ·exact ir.nrm
 have:=Hm (q:=c (hd r)) b hc (rC b) h (ir.hd b) hz d i hv;rwa[PE b]at this
theorem Oc{v pb:Nat}{L:nD}(h:qA v L)(h8:Uu v L pb){G:mH}(hX:zM (dN v L.E 0) L.bE G)(hN:XU G)
  {p q:MP} (p0:p≠0) (q0:q≠0) (lp:p.lo (v+1)) (lq:q.lo (v+1)) (hp:∀w,w<v->p.deg w<=L.d) (hq:∀w,w<v->q.deg w<=L.d) (ip:In (L.b1 v) p) (iq:In (L.b1 v) q) (hm:p.deg v<=L.M) (hn:q.deg v<=L.M) :
  ∀(n:Nat)(x y:MP)(U:Nat),y.deg v+2<n->Sq v p q x y->x.prim v->y.prim v->x.lo (v+1)->y.lo (v+1)->(∀w,w<v->x.deg w<=((U*L.d:Nat):Int))->(∀w,w<v->y.deg w<=((U*L.d:Nat):Int))->In (L.mu v U) x->In (L.mu v U) y ->
   1<=U->U<=2*L.M->(U=1\/((U:Int)+2*x.deg v=2*(L.M:Int)+2/\y.deg v<x.deg v))->1<=y.deg v->y.deg v<=x.deg v->x.deg v<=L.M->y.deg v<=p.deg v->y.deg v<=q.deg v ->
   ∃s:MP,AB G v n x.l y.l s.l/\In (L.mu v (2*L.M)) s/\lK s x y
 | 0,x,y,U,hlt,_,_,_,_,_,_,_,_,_,_,_,_,m,_,_,_,_=>by omega
 | n+1,x,y,U,hlt,hS,px,py,lx,ly,dx,dy,ix,iy,hU1,hU2,hUc,hy1,hyx,hxM,hyp,hyq=>by
  have hv:=h.hv;have HG:=yY v oM;have y0:=cZ py;have x0:=cZ px;obtain⟨k,hk⟩:∃k:Nat,x.deg v=k:=⟨(x.deg v).toNat,oM⟩;obtain⟨j,hj⟩:∃j:Nat,y.deg v=j:=⟨(y.deg v).toNat,oM⟩
  have X:(k-j+1+1)*(U*L.d)<=L.P/\(k-j+1+1)*(L.mu v U+1)<=pb:=by
   rcases hUc with e|⟨e,a9⟩
   ·subst e;have m:=h.p1;have a4:=h8.q1;have o:=Nat.mul_le_mul_right (1*L.d) (oM:k-j+1+1<=L.M+1);have h3:=Nat.mul_le_mul_right (L.mu v 1+1) (oM:k-j+1+1<=L.M+1);have h4:L.mu v 1=L.b1 v:=if_pos rfl;rw[h4]at h3 ⊢;omega
   ·have m:=h.pk k oM oM;have a4:=h8.qk k oM oM;have S:L.U k=U:=by unfold nD.U;omega
    rw[S]at m a4;have o:=Nat.mul_le_mul_right (U*L.d) (oM:k-j+1+1<=k+1);have h3:=Nat.mul_le_mul_right (L.mu v U+1) (oM:k-j+1+1<=k+1);omega
  have hz:=h8.z;have ed:U*L.d+(k-j+1)*(U*L.d)=(k-j+1+1)*(U*L.d):=by rw[Nat.add_one_mul (k-j+1)];omega
  have eb:L.mu v U+(k-j+1)*(L.mu v U+1)+1=(k-j+1+1)*(L.mu v U+1):=by rw[Nat.add_one_mul (k-j+1)];omega
  have a6:(L.M+1)*(U*L.d+(k - j+1)*(U*L.d)+1)^v<=10000:=Nat.le_trans (Nat.mul_le_mul_left _ (Nat.pow_le_pow_left (by have:=X.1;omega) v)) h.bP;have a2:Dg (dN v (U*L.d) L.M) x:=sV lx dx oM;have ao:Dg (dN v (U*L.d) j) y:=sV ly dy oM;have a3:Dg (dN v (U*L.d) L.M) y:=sV ly dy oM;have O:(L.M+1)*(U*L.d+1)^v<=10000:=Nat.le_trans (Nat.mul_le_mul_left _ (Nat.pow_le_pow_left oM v)) a6;have wx:=mq a2 ix (tF hv (nL _) (nL _) O) oM;have wy:=mq a3 iy (tF hv (nL _) (nL _) O) oM;obtain⟨f1,r,f2,f3,f4,f5,t,s',K⟩:=Mq (M:=L.M) hv hj ao iy (k - j+1) (U*L.d) (L.mu v U) x a2 ix oM oM a6 oM;rw[ed]at f3;replace f4:In ((k - j+1+1)*(L.mu v U+1)) r:=f4.mono oM;have ap:y.co v j=y.lc v:=by unfold MP.lc;rw[hj];rfl
  have b7:aD y.l v=(j:Int):=hj;have b8:aD x.l v=(k:Int):=hk;have es:(aD x.l v-(j:Int)+1).toNat=k-j+1:=oM;have b9:L.M+1<=10000:=Nat.le_trans (Nat.le_mul_of_pos_right _ (Nat.pow_pos oM)) O;have aa:L.mu v U<=L.mu v (2*L.M):=yz h hU1 hU2 (nL _)
  -- one round of the sequence
  have B:∀(t s:List ai),PQ G r.l v t->AB G v n y.l t s->AB G v (n+1) x.l y.l s:=λt s m o=>by
   refine .inr ⟨λe=>y0 (zero_iff.2 e),wx,wy,j,t,hj,oM,by rw[es];exact f1,?_,o⟩;have S:PN v j (aN y.l v (j:Int)) y.l (aD x.l v-(j:Int)+1).toNat x.l=r.l:=by rw[es];exact f2
   rw[S];exact m
  rw[ap]at K;have W:=vE hv ly s';have I:=G9 (lc_ne y0 v) s';have H:∀d:MP,d.prim v->d∣y->d∣r->d∣x:=λd pd m o=>eB HG hv lx pd W I (by rw[K];exact dvd_add (dvd_mul_of' m t) o)
  have hrem:∀d:MP,d∣x->d∣y->d∣r:=λd m o=>by
   have S:r=(y.lc v)^s'*x-t*y:=by rw[K];grind
   rw[S];exact dvd_sub (dvd_mul_of' m _) (dvd_mul_of' o _)
  by_cases b:r=0
  ·refine⟨y,B [] y.l (by rw[b];exact Ob G v) ?_,iy.mono aa,H y py (dvd_refl y) (by rw[b];exact dvd_zero y),dvd_refl y,λd _ h=>h⟩;obtain⟨n',rfl⟩:∃n',n=n'+1:=⟨n - 1,oM⟩;exact J3 G v n' _
  have bb:=deg_pos b v;by_cases a7:r.deg v<=0
  ·obtain⟨n',rfl⟩:∃n',n=n'+2:=⟨n - 2,oM⟩;have an:Dg (dN v L.P 0) r:=sV f3.lo (λw Y=>by have:=f3.low hv w Y;have:=X.1;omega) a7;have ar:(L.P+1)^v<=10000:=Nat.le_trans (Nat.le_mul_of_pos_left _ oM) h.bP;have bc:=h8.w1;refine⟨1,B (1:MP).l (1:MP).l (Uv hN hv b a7 an (f4.mono X.2) ar hz) (J4 hv y0 a3 iy O oM n'),In.one _,unit_dvd unit_one x,unit_dvd unit_one y,λd m o=>?_⟩;have hd:=dvd_deg b (hrem d m o) v;exact py d (by show d.deg v<=0;omega) o
  have b0:1<=r.deg v:=oM
  have ab:(k-j+1+1)*(U*L.d)<=L.E/\(k-j+1+1)*(L.mu v U+1)<=L.br:=by
   rcases hUc with e|⟨e,a9⟩
   ·subst e;have m:=h.e1;have o:=Nat.mul_le_mul_right (1*L.d) (oM:k-j+1+1<=L.M);have h3:=Nat.mul_le_mul_right (L.mu v 1+1) (oM:k-j+1+1<=L.M);have h4:L.mu v 1=L.b1 v:=if_pos rfl;rw[h4]at h3 ⊢;omega
   ·have m:=h.ek k oM oM;have S:L.U k=U:=by unfold nD.U;omega
    rw[S]at m;have o:=Nat.mul_le_mul_right (U*L.d) (oM:k-j+1+1<=k);have h3:=Nat.mul_le_mul_right (L.mu v U+1) (oM:k-j+1+1<=k);omega
  have r5:=f3.lo;have ac:∀w,w<v->r.deg w<=L.E:=λw Y=>by have:=f3.low hv w Y;have:=ab.1;omega
  have ad:In L.br r:=f4.mono ab.2;obtain⟨g,c1,c2,c3,c4⟩:=D6 h (nL _) hX r5 ac ad;obtain⟨c5,c6⟩:=c4 b;obtain⟨F,C,a1,R⟩:=jk c2 b;have i:=cZ a1;have Z:F.lo (v+1):=qx R i C r5;have ax:g.deg v=0:=uo c2.f R;have b6:F.deg v=r.deg v:=by rw[C,deg_mul R i,ax];omega
  have ba:2<=j:=oM;have N:2<=L.U j/\L.U j<=2*L.M:=by unfold nD.U;omega
  have av:((L.U j:Nat):Int)+2*y.deg v=2*(L.M:Int)+2:=by rw[hj];unfold nD.U;omega
  obtain⟨s1,s2,s3,s4⟩:=h.sg (L.U j) oM N.1;have ag:(y.lc v)^s'*x=t*y+g*F:=by rw[<-C];exact K
  obtain⟨m1,m2⟩:=Al hv hS y0 I W R c2.f ag oM i a1 Z p0 q0 lp lq hp hq ip iq hm hn hyp hyq oM s1 s2 rfl s3 s4;have aq:L.l2 (L.U j)+L.b1 v+L.xi (L.U j)+L.kap (L.U j)=L.mu v (L.U j):=by rw[nD.mu,if_neg oM]
  rw[aq]at m2;have b5:L.mu v (L.U j)<=L.mu v (2*L.M):=yz h oM N.2 (nL _)
  have a8:In (L.br+L.mu v (L.U j)) F:=by
   have e1:hd r=hd F:=by rw[C,Hd R i,c3 R,Rat.one_mul]
   have o:=(ad.hd b).mul m2;rwa[e1,<-rC i]at o
  have bd:=h8.x1;have aw:bx (dN v L.E L.M)<=10000:=tF hv (by have:=h.dE.2.2.1;omega) (nL _) h.bP;have nY:Dg (dN v L.E L.M) r:=sV r5 ac oM;have aE:PQ G r.l v (nrm F).l:=Hm b c1 (C.trans (jI g F)) nY a8 c6 aw oM hv;have a5:nrm F≠0:=Sg i;obtain⟨a0,al⟩:=fF i
  have D:∀w,(nrm F).deg w=F.deg w:=λw=>by have m:=dvd_deg i a0 w;have o:=dvd_deg a5 al w;omega
  have ay:=vN i
  have au:Sq v p q y (nrm F):=by refine hS.step y0 I W (e:=g*c (hd F)) (mul_ne R (wN ay)) (vS c2.f (ow _ v)) (t:=t) ?_ (by rw[D];omega);rw[ag];have m:g*c (hd F)*nrm F=g*(c (hd F)*nrm F):=gR;rw[m,<-rC i]
  obtain⟨s,b2,b3,J⟩:=Oc h h8 hX hN p0 q0 lp lq hp hq ip iq hm hn n y (nrm F) (L.U j) (by rw[D];omega) au py (kC a1 a0) ly (Mc Z)
   (λw Y=>by
    have m:=dy w Y;have o:U*L.d<=L.U j*L.d:=Nat.mul_le_mul_right _ (by rcases hUc with e|⟨e,_⟩<;>omega)
    omega)
   (λw Y=>by rw[D];exact m1 w Y) (iy.mono (yz h hU1 (by rcases hUc with e|⟨e,_⟩<;>omega) N.2)) m2 oM N.2 (.inr ⟨av,by rw[D];omega⟩) (by rw[D];omega) (by rw[D];omega) oM (by rw[D];omega) (by rw[D];omega)
  have b4:g.lo v:=pY (iA b (by rw[C];exact dvd_mul_right _ _) r5) c2.f;refine⟨s,B _ _ aE b2,b3,H s (kC py J.l) J.l ?_,J.l,λd m o=>J.u d o (dvd_trans ?_ al)⟩
  ·rw[C];exact dvd_mul_of' (dvd_trans J.r a0) g
  ·exact eB HG hv Z (kC py o) b4 R (by rw[<-C];exact hrem d m o)
theorem FQ{x y:List Nat}(h:y.length<=x.length):nz x y=il fuel x y:=by unfold nz;rw[if_neg oM]
theorem SA{a b:List ai}{v t:Nat}{x y:List Nat}(h:aD b v<=aD a v)(d:iZ a v t=some x)(e:iZ b v t=some y):y.length<=x.length:=by rw[Ba d,Ba e];omega
theorem zN{a b:List ai}{v:Nat}(h:aD b v<=aD a v)(ha:aD a v+1<fuel):∀l,∃m,kL a b v l=some m
 | []=>⟨_,rfl⟩
 | k::l=>by
  have d:=sQ (a:=a) (b:=b) (v:=v) ha oM (k::l);rw[kL];rw[jU]at d;split
  ·rename_i x y e i;rw[e,i]at d;simp only at d;split
   ·rename_i hf;rw[if_pos hf,FQ (SA h e i)]at d;exact d
   ·exact zN h ha l
  ·exact zN h ha l
theorem wT{v:Nat}(hv:v<4){a b d:MP}(ha:a≠0)(hb:b≠0)(kQ:b.deg v<=a.deg v)(j:∀m∈a.l,∀w,m.1.get w<18446744073709551616)(o:∀m∈b.l,∀w,m.1.get w<18446744073709551616)(e:d∣a)(i:d∣b) :
  ∀{l:List Nat}{m:Int},kL a.l b.l v l=some m->d.deg v<=m
 | [],m,h=>by simp only[kL,sJ]at h;have r:=dvd_deg ha e v;have e1:a.deg v=aD a.l v:=rfl;omega
 | k::l,m,h=>by
  rw[kL]at h;split at h
  ·rename_i x y p q;split at h
   ·rename_i hf;rw[Bool.and_eq_true]at hf;rw[<-FQ (SA kQ p q)]at h
    cases hs:nz x y with
    | none=>rw[hs]at h;cases h
    | some n =>
     rw[hs]at h;have h:some ((n:Int)-1)=some m:=h;have h:=Option.some.inj h;have:=FE hv ha hb j o e i p hf.1 q hf.2 hs;omega
   ·exact wT hv ha hb kQ j o e i h
  ·exact wT hv ha hb kQ j o e i h
theorem Od{v:Nat}{a b:MP}(h:0<a.deg v\/0<b.deg v)(i:a.lo (v+1))(lb:b.lo (v+1)):∀n,n<=4->v<n->wS a.l b.l n=(v:Int)
 | 0,_,h=>by omega
 | n+1,hn,hv=>by
  rw[wS];have e1:∀w,a.deg w=aD a.l w:=λ_=>rfl;have d:∀w,b.deg w=aD b.l w:=λ_=>rfl;rcases Nat.eq_or_lt_of_le (oM:v<=n)with e|hlt
  ·subst e;rw[e1,d]at h;rw[if_neg oM]
  ·have j:a.deg n<=0:=i n oM oM;have k:b.deg n<=0:=lb n oM oM;rw[e1]at j;rw[d]at k;rw[if_pos oM];exact Od h i lb n oM hlt
theorem J5{a b:MP}(d:a.lo 0)(lb:b.lo 0):∀n,n<=4->wS a.l b.l n=-1
 | 0,_=>rfl
 | n+1,hn=>by have h:a.deg n<=0:=d n oM oM;have i:b.deg n<=0:=lb n oM oM;have e1:a.deg n=aD a.l n:=rfl;have e:b.deg n=aD b.l n:=rfl;rw[wS,if_pos oM];exact J5 d lb n oM
theorem Oe{v pb:Nat}{L:nD}(h:qA v L)(J:Uu v L pb){G:mH}(S:zM (dN v L.E 0) L.bE G)(R:XU G)
  {p q:MP} (H:p.prim v) (I:q.prim v) (nq:hd q=1) (dp:Dg (dN v L.d L.M) p) (dq:Dg (dN v L.d L.M) q) (ip:In (L.b1 v) p) (O:In (L.b1 v) q) (j:q.deg v<=p.deg v) (wp:W8 p.l) (wq:W8 q.l) :
  ∃e,kL p.l q.l v [0,1,2]=some e/\∃z:MP,lK z p q/\In (L.mu v (2*L.M)) z/\(e=0/\z=1\/e≠0/\∃N,AB G v N p.l q.l z.l):=by
 have hv:=h.hv;have F:=cZ H;have s:=cZ I;have K:=dp.top hv;have y:=dq.top hv;have X:=h.fl;have e1:aD p.l v=p.deg v:=rfl;have e2:aD q.l v=q.deg v:=rfl;have u:L.mu v 1=L.b1 v:=if_pos rfl;have Y:L.b1 v<=L.mu v (2*L.M):=by rw[<-u];exact yz h (nL _) (by have:=h.dE.2.2.2;omega) (nL _)
 obtain⟨e,k⟩:=zN (a:=p.l) (b:=q.l) (v:=v) oM oM [0,1,2];have hex:∀p:MP,W8 p.l->∀m∈p.l,∀w,m.1.get w<18446744073709551616:=λp hp m hm w=>by have:=hp.exps m hm w;omega
 have n:∀d:MP,d∣p->d∣q->d.deg v<=e:=λd r x=>wT hv F s j (hex p wp) (hex q wq) r x k;refine⟨e,k,?_⟩;by_cases i:e=0
 ·exact⟨1,⟨unit_dvd unit_one p,unit_dvd unit_one q,λd r x=>H d (by have:=n d r x;show d.deg v<=0;omega) r⟩,In.one _,.inl ⟨i,rfl⟩⟩
 have Z:=deg_pos s v;by_cases C:q.deg v<=0
 ·have o:q.unit:=I q C (dvd_refl q);have hq:q=1:=Ma s o (unit_dvd unit_one q) nq uK;have B:=h.bP;have W:=h.dE;refine⟨1,wQ (.inr o),In.one _,.inr ⟨i,2,?_⟩⟩;rw[hq];exact J4 hv F dp ip (Nat.le_trans (Nat.mul_le_mul_left _ (Nat.pow_le_pow_left oM v)) B) (by have:=J.w1;omega) 0
 ·obtain⟨z,z1,z2,z3⟩:=Oc h J S R F s dp.lo dq.lo (dp.low hv) (dq.low hv) ip O K y (L.M+3) p q 1 oM .base H I dp.lo dq.lo
   (λw D=>by have:=dp.low hv w D;omega) (λw D=>by have:=dq.low hv w D;omega) (by rw[u];exact ip) (by rw[u];exact O) (nL _) (by have:=h.dE.2.2.2;omega) (.inl rfl) oM j K j (Int.le_refl _)
  exact⟨z,z3,z2,.inr ⟨i,_,z1⟩⟩
theorem Uw{d:Nat->Nat}{b k:Nat}{p q:MP}(e:p≠0)(i:q≠0)(h:Dg d (p*q))(ip:In b p)(o:In k q)(n:bx d<=10000)(hb:b+k<7900000000):xX p.l q.l:=by
 refine sW (dp:=λw=>(p.deg w).toNat) (dq:=λw=>(q.deg w).toNat) (λw _=>?_) (λw _=>?_) (d:=d) (λw m=>?_) ip o n hb
 ·show p.deg w<=((p.deg w).toNat:Int);have:=deg_pos e w;omega
 ·show q.deg w<=((q.deg w).toNat:Int);have:=deg_pos i w;omega
 ·have j:=h w m;rw[deg_mul e i]at j;have:=deg_pos e w;have:=deg_pos i w;show(p.deg w).toNat+(q.deg w).toNat<=d w;omega
theorem U7(G:mH):XU (FO G):=λd b x e i h hb=>.inl ⟨rfl,oQ e i h hb⟩
theorem uN{g z a b:MP}(hz:z.unit)(h:lK (g*z) a b):lK g a b :=
 ⟨dvd_trans (dvd_mul_right _ _) h.l,dvd_trans (dvd_mul_right _ _) h.r,λd i j=>dvd_trans (h.u d i j) (by
  have e:g*1=g:=gR;have:=mul_dvd (dvd_refl g) hz
  rwa[e]at this)⟩
theorem J6{v pb:Nat}{L:nD}(h:qA v L)(h8:Uu v L pb){G:mH}(hX:zM (dN v L.E 0) L.bE G)(hN:XU G)(a6:zM (dN v L.E 0) L.bE (FO G)):zM (dN v L.d L.M) L.b (FO G):=λa b da D ia ib=>by
 have hv:=h.hv;have HG:=yY v oM;have W:=h.dE;have aa:=h8.x2;have k:bx (dN v L.d L.M)<=10000:=tF hv oM (nL _) h.bP;have av:L.b<=L.b1 v:=by unfold nD.b1;split<;>omega
 have I:L.b<7900000000:=oM;have a3:L.b<=L.bE:=by unfold nD.bE;omega
 have low0:∀p:MP,Dg (dN v L.d L.M) p->p.deg v<=0->Dg (dN v L.E 0) p:=λp dp hp=>sV dp.lo (λw hw=>by have:=dp.low hv w hw;omega) hp;by_cases a5:a.deg v<=0/\b.deg v<=0
 ·exact a6 a b (low0 a da a5.1) (low0 b D a5.2) (ia.mono a3) (ib.mono a3)
 by_cases m:a=0
 ·refine⟨nrm b,.inl ⟨zero_iff.1 m,oQ D ib k I⟩,?_,λC=>nC λh0=>C (by rw[h0,jM])⟩;by_cases hb:b=0
  ·rw[hb,jM,m];exact⟨dvd_refl _,dvd_refl _,λd h _=>h⟩
  ·exact⟨by rw[m];exact dvd_zero _,(fF hb).1,λd _ h=>dvd_trans h (fF hb).2⟩
 have na:a.l≠[]:=λe=>m (zero_iff.2 e);by_cases b0:b=0
 ·exact⟨nrm a,.inr (.inl ⟨na,zero_iff.1 b0,oQ da ia k I⟩),⟨(fF m).1,by rw[b0];exact dvd_zero _,λd h _=>dvd_trans h (fF m).2⟩,λ_=>nC m⟩
 have nb:b.l≠[]:=λe=>b0 (zero_iff.2 e);have wa:=mq da ia k I;have wb:=mq D ib k I;have a9:wS a.l b.l 4=(v:Int):=Od oM da.lo D.lo 4 oM hv;have R:∀p:MP,Dg (dN v L.d L.M) p->∀w,w<v->p.deg w<=L.E:=λp dp w hw=>by have:=dp.low hv w hw;omega
 obtain⟨x,x1,x2,x3,x4⟩:=D6 h W.2.1 hX da.lo (R a da) ia;obtain⟨y,y1,y2,y3,y4⟩:=D6 h W.2.1 hX D.lo (R b D) ib;obtain⟨x5,x6⟩:=x4 m;obtain⟨y5,y6⟩:=y4 b0;have J:L.cz v L.b<=L.bE:=NR W.2.1;obtain⟨g,ag,hg⟩:=hX x y x5 y5 (x6.mono J) (y6.mono J);obtain⟨p,S,pp,x0⟩:=jk x2 m;obtain⟨q,eq,pq,y0⟩:=jk y2 b0;have p0:=cZ pp;have q0:=cZ pq
 have ab:∀z:MP,v=0->hd z=1->Dg (dN v L.E 0) z->z=1:=λz e j o=>by
  subst e;obtain⟨r,rfl⟩:=ku o.lo0;have hr:r≠0:=λe=>by rw[e,Cn]at j;cases j
  have a2:=sS hr 1;have ad:c r*1=c r:=gR;rw[ad,j,uK,Rat.one_mul]at a2;rw[<-a2,zZ]
 have ip:=vF h m da.lo da ia S (x3 x0) (λe=>ab x e (x3 x0) x5);have iq:=vF h b0 D.lo D ib eq (y3 y0) (λe=>ab y e (y3 y0) y5);have al:PQ G a.l v (nrm p).l:=Hm m x1 (S.trans (jI x p)) da ip x6 k aa hv;have an:PQ G b.l v (nrm q).l:=Hm b0 y1 (eq.trans (jI y q)) D iq y6 k aa hv;obtain⟨X,ap⟩:=fF p0;obtain⟨Y,aq⟩:=fF q0;have dp:Dg (dN v L.d L.M) (nrm p):=(da.dvd m ⟨x,S.trans (jI x p)⟩).dvd p0 X;have dq:Dg (dN v L.d L.M) (nrm q):=(D.dvd b0 ⟨y,eq.trans (jI y q)⟩).dvd q0 Y;have wp:=mq dp ip.nrm k oM;have wq:=mq dq iq.nrm k oM;have Z:=kC pp X;have a1:=kC pq Y
 -- in either order
 have a8:∃(s t:MP)(F:Int)(z:MP),(aD (nrm p).l v<aD (nrm q).l v/\s=nrm q/\t=nrm p\/¬aD (nrm p).l v<aD (nrm q).l v/\s=nrm p/\t=nrm q)/\kL s.l t.l v [0,1,2]=some F/\lK z (nrm p) (nrm q)/\In (L.mu v (2*L.M)) z/\(F=0/\z=1\/F≠0/\∃N,AB G v N s.l t.l z.l):=by
  rcases Int.lt_or_le ((nrm p).deg v) ((nrm q).deg v)with hlt|kQ
  ·obtain⟨F,j,z,o,h3,h4⟩:=Oe h h8 hX hN a1 Z (nC p0) dq dp iq.nrm ip.nrm oM wq wp;exact⟨_,_,F,z,.inl ⟨hlt,rfl,rfl⟩,j,DL o,h3,h4⟩
  ·obtain⟨F,j,z,o,h3,h4⟩:=Oe h h8 hX hN Z a1 (nC q0) dp dq ip.nrm iq.nrm kQ wp wq;exact⟨_,_,F,z,.inr ⟨Int.not_lt.2 kQ,rfl,rfl⟩,j,o,h3,h4⟩
 obtain⟨s,t,F,z,s1,s2,s3,s4,s5⟩:=a8;have K:lK z p q:=⟨dvd_trans s3.l X,dvd_trans s3.r Y,λd j o=>s3.u d (dvd_trans j ap) (dvd_trans o aq)⟩;have lp:=qx x0 p0 S da.lo;have lq:=qx y0 q0 eq D.lo;have lx:x.lo v:=pY (iA m (by rw[S];exact dvd_mul_right _ _) da.lo) x2.f;have ly:y.lo v:=pY (iA b0 (by rw[eq];exact dvd_mul_right _ _) D.lo) y2.f
 have B:lK (g*z) a b:=by
  refine⟨by rw[S];exact mul_dvd hg.i.l K.l,by rw[eq];exact mul_dvd hg.i.r K.r,λd j o=>?_⟩;have d0:=dvd_ne m j;obtain⟨e,u,rfl,he,au,ac,lz,_⟩:=kD HG hv (iA m j da.lo) d0;have a4:e.fr v:=he v (nL _) hv;refine mul_dvd (hg.i.u e ?_ ?_) (K.u u ?_ ?_)
  ·exact x2.u e a4 (dvd_trans (dvd_mul_right _ _) j)
  ·exact y2.u e a4 (dvd_trans (dvd_mul_right _ _) o)
  ·exact eB HG hv lp ac lx x0 (by rw[<-S];exact dvd_trans (dvd_mul_left _ _) j)
  ·exact eB HG hv lq ac ly y0 (by rw[<-eq];exact dvd_trans (dvd_mul_left _ _) o)
 have C:=JL B m;have g0:=dvd_ne x0 hg.i.l;have z0:z≠0:=λe=>C (by rw[e];grind);have ar:L.cz v L.b<=L.bE:=J
 have ig:In L.bE g:=by obtain⟨j,o⟩:=zK h da.lo (R a da) ia (a.deg v).toNat;have h3:g∣a.lc v:=dvd_trans hg.i.l ((dvd_iff_co x2.f a).1 x2.d _);exact(rD h (hg.n g0) (lc_ne m v) h3 j o).2.mono J
 have O:=h8.fin;have H:Dg (dN v L.d L.M) (g*z):=da.dvd m B.l;have dg:Dg (dN v L.d L.M) g:=H.dvd C (dvd_mul_right _ _);have dz:Dg (dN v L.d L.M) z:=H.dvd C (dvd_mul_left _ _);have wz:=mq dz s4 k oM;have a7:nX g.l (nrm g).l:=oQ dg ig k oM
 have key:∃r:MP,NG r a b/\(F=0/\nX g.l r.l\/F≠0/\∃(N:Nat)(z:List ai),AB G v N s.l t.l z/\z.length<=100000000/\(aD z v<1/\nX g.l r.l\/¬aD z v<1/\xX g.l z/\nX (aX g.l z) r.l)):=by
  rcases s5 with ⟨j,o⟩|⟨j,N,o⟩
  ·exact⟨nrm g,⟨vD (uN (by rw[o];exact unit_one) B) g0,λ_=>nC g0⟩,.inl ⟨j,a7⟩⟩
  ·by_cases hz:z.deg v<1
   ·have ao:z.unit:=pp z (by show z.deg v<=0;omega) K.l;exact⟨nrm g,⟨vD (uN ao B) g0,λ_=>nC g0⟩,.inr ⟨j,N,z.l,o,wz.w.len,.inl ⟨hz,a7⟩⟩⟩
   ·exact⟨nrm (g*z),⟨vD B C,λ_=>nC C⟩,.inr ⟨j,N,z.l,o,wz.w.len,.inr ⟨hz,Uw g0 z0 H ig s4 k O,oQ H (ig.mul s4) k O⟩⟩⟩
 obtain⟨r,hr,hk⟩:=key;refine⟨r,.inr (.inr ⟨na,nb,wa,wb,.inr ⟨v,x.l,y.l,g.l,(nrm p).l,(nrm q).l,s.l,t.l,F,hv,a9,x1,y1,ag,al,an,wp,wq,λe=>cZ Z (zero_iff.2 e),λe=>cZ a1 (zero_iff.2 e),?_,s2,hk⟩⟩),hr⟩;rcases s1 with ⟨j,rfl,rfl⟩|⟨j,rfl,rfl⟩
 ·exact .inl ⟨j,rfl,rfl⟩
 ·exact .inr ⟨j,rfl,rfl⟩
theorem zM.mono{d d':Nat->Nat}{b e:Nat}{G:mH}(h:zM d b G)(hd:∀w,d' w<=d w)(hb:e<=b):zM d' e G:=λx y i j k l=>h x y (i.mono hd) (j.mono hd) (k.mono hb) (l.mono hb)
theorem FR{b:Nat}(hb:b<7900000000){d:Nat->Nat}(hd:∀w,w<4->d w=0)(G:mH):zM d b (FO G):=λx y k m p q=>by
 have i:bx d<=10000:=by unfold bx;rw[hd 0,hd 1,hd 2,hd 3]<;>omega
 have lo:∀z:MP,Dg d z->z.lo 0:=λz dz w _ o=>by have:=dz w o;rw[hd w o]at this;exact this
 by_cases j:x=0
 ·refine⟨nrm y,.inl ⟨zero_iff.1 j,oQ m q i hb⟩,?_,λn=>nC λu=>n (by rw[u,jM])⟩;by_cases hb:y=0
  ·rw[hb,jM,j];exact⟨dvd_refl _,dvd_refl _,λd h _=>h⟩
  ·exact⟨by rw[j];exact dvd_zero _,(fF hb).1,λd _ h=>dvd_trans h (fF hb).2⟩
 have r:x.l≠[]:=λe=>j (zero_iff.2 e);by_cases b0:y=0
 ·exact⟨nrm x,.inr (.inl ⟨r,zero_iff.1 b0,oQ k p i hb⟩),⟨(fF j).1,by rw[b0];exact dvd_zero _,λd h _=>dvd_trans h (fF j).2⟩,λ_=>nC j⟩
 have C:y.l≠[]:=λe=>b0 (zero_iff.2 e);obtain⟨s,es⟩:=ku (lo x k);have B:s≠0:=λe=>j (by rw[es,e,Cn]);refine⟨1,.inr (.inr ⟨r,C,mq k p i hb,mq m q i hb,.inl ⟨by rw[J5 (lo x k) (lo y m) 4 oM];omega,sU.symm⟩⟩),wQ (.inl (by rw[es];exact yX B)),λ_=>uK⟩
theorem D7{L:Nat->nD}{pb:Nat->Nat}:∀(v:Nat),Yg L v->(∀w,w<=v->Uu w (L w) (pb w))->∀n,zM (dN v (L v).d (L v).M) (L v).b (tC (n+v+2))
 | 0,h,h8,n=>by
  have p:qA 0 (L 0):=h;have hz:∀w,w<4->dN 0 (L 0).E 0 w=0:=λw _=>by unfold dN;rw[if_neg oM];split<;>rfl
  have hb:(L 0).bE<7900000000:=by have:=(h8 0 (nL _)).fin;omega
  exact J6 p (h8 0 (nL _)) (FR hb hz (tC n)) (U7 _) (FR hb hz (tC (n+1)))
 | v+1,h,h8,n=>by
  obtain⟨q,r,s,k,l⟩:=h
  have hd:∀w,dN (v+1) (L (v+1)).E 0 w<=dN v (L v).d (L v).M w:=λw=>by
   unfold dN;by_cases e:w<v
   ·rw[if_pos oM,if_pos e];exact r
   ·by_cases i:w=v
    ·rw[if_pos oM,if_neg e,if_pos i];exact s
    ·rw[if_neg oM,if_neg e,if_neg i];split<;>exact nL _
  have g1:=(D7 v l (λw u=>h8 w oM) n).mono hd k;have j:=(D7 v l (λw u=>h8 w oM) (n+1)).mono hd k;have e1:n+(v+1)+2=(n+v+2)+1:=oM;have m:n+1+v+2=(n+v+2)+1:=oM;rw[m]at j;rw[e1];have o:n+v+2=(n+v+1)+1:=oM;exact J6 q (h8 (v+1) (nL _)) g1 (by rw[o];exact U7 _) j
def XW (v:Nat) (L:nD) (pb:Nat):Bool :=
 decide ((L.M+1)*(L.b1 v+1)<=pb)&&decide (∀k,k<L.M+1->2<=k->(k+1)*(L.mu v (L.U k)+1)<=pb)&&decide (pb+(if v=0 then 0 else pb)<7900000000)&&decide (L.br+L.mu v (2*L.M)+L.cz v L.br<7900000000)&&decide (L.b1 v+L.cz v L.b<7900000000)&&decide (L.bE+L.mu v (2*L.M)<7900000000)&&decide (L.mu v (2*L.M)+(L.M+1)<7900000000)
theorem Ho{v pb:Nat}{L:nD}(h:XW v L pb=true):Uu v L pb:=by simp only[XW,Bool.and_eq_true,decide_eq_true_eq]at h;obtain⟨⟨⟨⟨⟨⟨b,d⟩,e⟩,i⟩,j⟩,k⟩,l⟩:=h;exact⟨b,d,e,i,j,k,l⟩
def Yj:Nat->Nat
 | 0=>7200000000
 | _=>1000000
theorem Y1:∀w,w<=2->Uu w (L8 w) (Yj w):=λw h=>by
 have b:Uu 0 (L8 0) (Yj 0):=Ho dK;have d:Uu 1 (L8 1) (Yj 1):=Ho dK;have e:Uu 2 (L8 2) (Yj 2):=Ho dK;rcases w with _|_|_|w
 ·exact b
 ·exact d
 ·exact e
 ·omega
theorem U8:zM D8 90 (tC 6):=D7 2 UZ Y1 2
def Y2 (v:Nat) (e:Ex):Ex:=(e.put v (e.get 3)).put 3 (e.get v)
def Y6 (v:Nat) (x:Pt):Pt:=(x.put v (x.get 3)).put 3 (x.get v)
def sw (v:Nat) (p:MP):MP:=⟨canon (p.l.map λt=>(Y2 v t.1,t.2)),fA _⟩
theorem NC.eqq{v:Nat}{g h a:MP}(hg:NC v g a)(i:NC v h a):g=h:=by
 have j:=i.1.u g hg.1.f hg.1.d;have k:=hg.1.u h i.1.f i.1.d;by_cases b:g=0
 ·rw[b]at j ⊢;exact(zero_dvd j).symm
 ·have l:h≠0:=λe=>b (by rw[e]at k;exact zero_dvd k);exact Ma b j k (hg.2 b) (i.2 l)
def XX (H:Nat) (l:List ai):Prop:=∃f:MP,f.l=l/\Dg D8 f/\In 90 f/\(f=0\/∃F:MP,F≠0/\f∣F/\Dq H F)
theorem J7{H:Nat}(o:H<=225):∀(l:List (List ai))(b:MP),(∀c∈l,XX H c)->(b=0\/(hd b=1/\∃F:MP,F≠0/\b∣F/\Dq H F))->∃r,uD (wJ 6) b.l l=some r
 | [],b,_,_=>⟨_,rfl⟩
 | c::l,b,hl,ha=>by
  obtain⟨f,rfl,p,hf,s⟩:=hl c sM
  have d:Dg D8 b/\In 90 b:=by
   rcases ha with e|⟨q,F,h,j,k⟩
   ·rw[e];exact NZ
   ·exact Sn k o h j q
  obtain⟨g,x,hg⟩:=Wu d.1 p d.2 hf;rw[uD,x];simp only;split
  ·exact⟨_,rfl⟩
  ·refine J7 o l g (λc hc=>hl c (by simp[hc])) ?_;by_cases m:g=0
   ·exact .inl m
   ·refine .inr ⟨hg.n m,?_⟩;rcases s with f0|⟨F,h,j,k⟩
    ·rcases ha with e|⟨-,F,h,j,k⟩
     ·exact absurd (zero_dvd (hg.i.u 0 (by rw[e];exact dvd_refl 0) (by rw[f0];exact dvd_refl 0))) m
     ·exact⟨F,h,dvd_trans hg.i.l j,k⟩
    ·exact⟨F,h,dvd_trans hg.i.r j,k⟩
theorem XY{d:Nat->Nat}{p:MP}(h:Dg d p){v:Nat}(hv:v<4)(n:Nat):Dg d (p.co v n):=λw b=>qW v n p b hv (h w b)
theorem Dq.co{H:Nat}{p:MP}(h:Dq H p){v:Nat}(hv:v<4)(n:Nat):Dq H (p.co v n):=⟨XY h.d hv n,h.i.co v n⟩
theorem XZ{H:Nat}(d:H<=225){a:MP}{v:Nat}(b:∀n,XX H (a.co v n).l):∃g:MP,mG (wJ 6) a.l v=some g.l/\NC v g a:=by
 obtain⟨r,b⟩:=J7 d (aA a.l v) 0 (λc hc=>by
  obtain⟨n,e⟩:=eu hc
  rw[e];exact b n) (.inl rfl)
 obtain⟨g,rfl,hg,h⟩:=qw (yA 6) (a:=a) (v:=v) b;exact⟨g,b,hg,h⟩
theorem Dq.rw{H:Nat}(e:H<=225){a:MP}(h:Dq H a){v:Nat}(hv:v<4)(n:Nat):XX H (a.co v n).l:=by
 refine⟨a.co v n,rfl,(h.co hv n).d,(h.co hv n).in90 e,?_⟩;by_cases b:a.co v n=0
 ·exact .inl b
 ·exact .inr ⟨_,b,dvd_refl _,h.co hv n⟩
theorem Ux{v:Nat}{g:MP}(h:NC v g 0):g=0:=zero_dvd (h.1.u 0 (oJ v) (dvd_refl 0))
theorem FT{H:Nat}(y:H<=225):∀(l:List (List ai))(b:MP),(∀c∈l,XX H c)->(b=0\/(hd b=1/\∃F:MP,F≠0/\b∣F/\Dq H F)) ->
  ∃g:MP,mI (tC 6) l b.l g.l/\g∣b/\(∀f:MP,f.l∈l->g∣f)/\(∀d,d∣b->(∀f:MP,f.l∈l->d∣f)->d∣g)/\(g≠0->hd g=1)
 | [],b,_,ha=>⟨b,rfl,dvd_refl _,λf hf=>(by cases hf),λd h _=>h,λD=>ha.elim (λe=>absurd e D) λe=>e.1⟩
 | c::l,b,hl,ha=>by
  obtain⟨f,rfl,B,hf,E⟩:=hl c sM
  have m:Dg D8 b/\In 90 b:=by
   rcases ha with e|⟨x,F,p,j,q⟩
   ·rw[e];exact NZ
   ·exact Sn q y p j x
  obtain⟨g,G,hg⟩:=U8 b f m.1 B m.2 hf
  obtain⟨k,e,z,I,J,K⟩:=FT y l g (λc hc=>hl c (by simp[hc])) (by
   by_cases s:g=0
   ·exact .inl s
   ·refine .inr ⟨hg.n s,?_⟩;rcases E with f0|⟨F,p,j,q⟩
    ·rcases ha with e|⟨-,F,p,j,q⟩
     ·exact absurd (zero_dvd (hg.i.u 0 (by rw[e];exact dvd_refl 0) (by rw[f0];exact dvd_refl 0))) s
     ·exact⟨F,p,dvd_trans hg.i.l j,q⟩
    ·exact⟨F,p,dvd_trans hg.i.r j,q⟩)
  refine⟨k,⟨g.l,G,e⟩,dvd_trans z hg.i.l,λC o=>?_,λd x j=>J d (hg.i.u d x (j f sM)) λf hf=>j f (by simp[hf]),K⟩;rcases List.mem_cons.1 o with e|o
  ·rw[MP.eq_of e];exact dvd_trans z hg.i.r
  ·exact I C o
theorem Wy{H:Nat}(i:H<=225){a:MP}{v:Nat}(b:∀n,XX H (a.co v n).l):∃g:MP,mI (tC 6) (aA a.l v) [] g.l/\NC v g a:=by
 obtain⟨g,b,-,d,h,j⟩:=FT i (aA a.l v) 0 (λc hc=>by
  obtain⟨n,e⟩:=eu hc
  rw[e];exact b n) (.inl rfl)
 exact⟨g,b,Oa d h,j⟩
theorem SB{v:Nat}{G:mH}{a g q:MP}{d:Nat->Nat}{b k:Nat}(j:a≠0)(hc:mI G (aA a.l v) [] g.l)(e:a=q*g)
  (ha:Dg d a) (x:In b q) (y:In k g) (u:bx d<=10000) (hb:b+k<7900000000):N7 G a.l v q.l:=by
 have n:q≠0:=λh=>j (by rw[e,h];grind);have i:g≠0:=λh=>j (by rw[e,h];grind)
 have r:∀w,w<4->(q.deg w).toNat+(g.deg w).toNat<=d w:=λw s=>by have m:=ha w s;rw[e,deg_mul n i]at m;have:=deg_pos n w;have:=deg_pos i w;omega
 obtain⟨t,l,o⟩:=jg i;obtain⟨m,p⟩:=N9 o (dq:=λw=>(q.deg w).toNat) (dz:=λw=>(g.deg w).toNat) (λw _=>by show q.deg w<=((q.deg w).toNat:Int);have:=deg_pos n w;omega) (λw _=>by show g.deg w<=((g.deg w).toNat:Int);have:=deg_pos i w;omega) r x y u hb;exact .inr ⟨λh=>j (zero_iff.2 h),t,l,q.l.length,by rw[<-o];exact hc,m,by rw[e];exact p⟩
theorem PG{a b:MP}(e:Dq 225 a)(u:Dq 225 b){v:Nat}(hv:v<4):∃n g k p:MP,∃y x J:Nat,
  (jT a.l=some n.l/\nX a.l n.l/\Pk (JS y) n.l)/\(An a b g/\tC 6 a.l b.l g.l/\Pk (JS x) g.l) /\
  (mG (wJ 6) a.l v=some k.l/\mI (tC 6) (aA a.l v) [] k.l/\Pk (JS J) k.l)/\(kW (wJ 6) a.l v=some p.l/\N7 (tC 6) a.l v p.l/\Pk (JS 1) p.l):=by
 have o:=e.in90 (nL _);have I:=u.in90 (nL _);have m:bx D8<=10000:=by rw[XM];omega
 obtain⟨g,Z,hg⟩:=Wu e.d u.d o I;obtain⟨q,D,E⟩:=U8 a b e.d u.d o I;obtain rfl:=E.eq2 hg;obtain⟨x,-,-,R⟩:=XN e u (nL _) hg;have wa:=Yh e.d o
 have O:∃z,Pk (JS z) (nrm a).l:=by
  by_cases i:a=0
  ·rw[i,jM];exact⟨1,Be⟩
  ·obtain⟨z,-,-,h⟩:=NY e (nL _) i (fF i).1 (nC i);exact⟨z,h⟩
 obtain⟨y,W⟩:=O;have M:jT a.l=some (nrm a).l/\nX a.l (nrm a).l/\Pk (JS y) (nrm a).l:=⟨XO e.d o,oQ e.d o m oM,W⟩;have L:An a b q/\tC 6 a.l b.l q.l/\Pk (JS x) q.l:=⟨XP e.d u.d o I hg,D,R⟩;obtain⟨k,e1,j⟩:=XZ (a:=a) (v:=v) (nL 225) λn=>e.rw (nL _) hv n;obtain⟨k',C,F⟩:=Wy (a:=a) (v:=v) (nL 225) λn=>e.rw (nL _) hv n;obtain rfl:=F.eqq j;by_cases i:a=0
 ·have G:k'=0:=by rw[i]at j;exact Ux j
  refine⟨nrm a,q,k',0,y,x,1,M,L,⟨e1,C,by rw[G];exact Be⟩,by rw[i];rfl,.inl ⟨zero_iff.1 i,rfl⟩,Be⟩
 ·have k0:=dvd_ne i j.1.d;have K:=(dvd_iff_co j.1.f a).1 j.1.d (a.deg v).toNat;obtain⟨Y,N⟩:=Sn (e.co hv _) (nL _) (lc_ne i v) K (j.2 k0);obtain⟨J,-,-,S⟩:=NY (e.co hv _) (nL _) (lc_ne i v) K (j.2 k0);obtain⟨p,B,pp,-⟩:=jk j.1 i;obtain⟨z,z1,X,-,ip⟩:=Mk e i B (j.2 k0);have hz:=Nat.mul_le_mul_right (2^72*225) X;have dp:Dg D8 p:=e.d.dvd i ⟨k',B.trans (jI k' p)⟩;have s:In 90 p:=⟨1,_,oM,Nat.one_le_two_pow,Nat.le_trans hz dK,ip⟩;have r:=yw k0 (B.trans (jI k' p)) e.d m s N (by rw[CW];omega)
  have H:kW (wJ 6) a.l v=some p.l:=by obtain⟨t,l,el⟩:=jg i;rw[el]at r e1 ⊢;rw[kW];simp only[e1];exact r
  exact⟨nrm a,q,k',p,y,x,J,M,L,⟨e1,C,S⟩,H,SB i C (B.trans (jI k' p)) e.d s N m oM,p.v,Sm ip oM dp (Nat.le_trans hz dK),Ml oM oM⟩
end Q
end
