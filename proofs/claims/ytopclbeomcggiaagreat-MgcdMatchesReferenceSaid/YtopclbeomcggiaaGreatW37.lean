/- R8.Gcd. -/
import Derived.Test.YtopclbeomcggiaaGreatW35
import Derived.Test.YtopclbeomcggiaaGreatW36
set_option linter.unusedVariables false
set_option linter.unusedSimpArgs false
set_option maxHeartbeats 16000000
set_option maxRecDepth 100000
section
namespace Q
open Go Go.RowKit Go.Proofs.YtopclbeomcggiaaGreat
def nP (a r:List ai):Prop:=a=[]/\r=[]\/∃t l,a=t::l/\Wr (t::l)/\Rs (1/t.2)/\r=bN (t::l) (1/t.2)
def PH (G:mE) (a:List ai) (v:Nat) (r:List ai):Prop:=∃p,aD a v<=900000/\a.length<=100000000/\NR G a v p/\nP p r
def Aq (G:mE) (v:Nat):Nat->List ai->List ai->List ai->Prop
 | 0,_,_,_=>False
 | n+1,p,q,r=>q=[]/\r=p\/q≠[]/\W8 p/\W8 q/\∃(m:Nat)(t:List ai),aD q v=(m:Int)/\m<=900000/\Lh v m (aN q v (m:Int)) q (aD p v-m+1).toNat p /\
   PH G (PD v m (aN q v (m:Int)) q (aD p v-m+1).toNat p) v t/\Aq G v n q t r
def FE (G:mE):mE:=λa b r =>
 a=[]/\nP b r\/a≠[]/\b=[]/\nP a r\/a≠[]/\b≠[]/\W8 a/\W8 b/\(wK a b 4<0/\r=[(e0,(1:Rat))] \/
  ∃(v:Nat)(x y c p q s t:List ai)(bd:Int),v<4/\wK a b 4=(v:Int)/\mF G (aA a v) [] x/\mF G (aA b v) [] y/\G x y c/\PH G a v p/\PH G b v q/\W8 p/\W8 q/\p≠[]/\q≠[] /\
   (aD p v<aD q v/\s=q/\t=p\/¬aD p v<aD q v/\s=p/\t=q)/\kI s t v [0,1,2]=some bd /\
   (bd=0/\nP c r\/bd≠0/\∃(N:Nat)(z:List ai),Aq G v N s t z/\z.length<=100000000/\(aD z v<1/\nP c r\/¬aD z v<1/\xO c z/\nP (aX c z) r)))
def sS:Nat->mE
 | 0=>λ_ _ _=>False
 | n+1=>FE (sS n)
end Q
namespace Go.Proofs.YtopclbeomcggiaaGreat
open Go.RowKit Q Go.WideMaps Go.Maps
theorem mH{b:Value}{a r:List ai}{w:World}(ha:ak w b a)(h:nP a r):Calls Tryz.prog 15 #[b] w (aS w r):=by
 rcases h with ⟨rfl,rfl⟩|⟨t,l,rfl,e,d,rfl⟩
 ·exact JO b w ha
 ·exact JP b t l w ha e d
theorem Po(w:World):Calls Tryz.prog 58 #[] w (aS w [(e0,(1:Rat))]):=by
 have hc:=zH (λW v (hv:bM W v ((1:Int):Rat))=>vW v ((1:Int):Rat) ⟨1,1,0,1⟩ W hv ⟨sM,λt b=>by rw[List.mem_singleton.1 b];decide,λt b=>by rw[List.mem_singleton.1 b];exact Dv.int 1 1,dK⟩ dK);rw[show bZ ((1:Int):Rat)=[(e0,(1:Rat))]from by show bZ 1=_;decide +kernel]at hc
 go_enter Tryz.func58,Tryz.ntmps58
 go_wp2_with (first
  | (go_at_call 24;refine(gG 1 _ oM oM).mono ?_;rintro e w3 ⟨v3,rfl,h3,hb3⟩)
  | (go_at_call 72;refine(hc.out _ _ h3).mono ?_;rintro e w4 ⟨v4,rfl,h4,hb4⟩))
 go_ret;exact⟨_,rfl,h4,hb3.trans (hb4.mono hb3.size)⟩
theorem DR{a:List ai}(h:a≠[]):((a.length:Int)==0)=false:=by have:=List.length_pos_iff.2 h;simp;exact h
theorem Pp{G:mE}(hG:FD G)(va vb:Value)(a b x y c p q s t r:List ai)(v:Nat)(I:Int)(w:World)(ha:ak w va a)(hb:ak w vb b)(na:a≠[])(nb:b≠[])(Y:W8 a)(kb:W8 b)(hv:v<4)(C:wK a b 4=(v:Int))
  (hx:mF G (aA a v) [] x) (hy:mF G (aA b v) [] y) (a0:G x y c) (hp:PH G a v p) (hq:PH G b v q) (kp:W8 p) (kq:W8 q) (np:p≠[]) (L:q≠[])
  (B:aD p v<aD q v/\s=q/\t=p\/¬aD p v<aD q v/\s=p/\t=q) (F:kI s t v [0,1,2]=some I)
  (hr:I=0/\nP c r\/I≠0/\∃(N:Nat)(z:List ai),Aq G v N s t z/\z.length<=100000000/\(aD z v<1/\nP c r\/¬aD z v<1/\xO c z/\nP (aX c z) r)) :
  Calls Tryz.prog 17 #[va,vb] w (aS w r):=by
 have hT:=zH (JQ va vb a b w ha hb Y.w.len kb.w.len);rw[C]at hT;have ac:=DR na;have a9:=DR nb;obtain⟨p0,-,-,hp1,hp2⟩:=hp;obtain⟨q0,-,-,hq1,hq2⟩:=hq;have cA:=zH (λW (h:Below w.heap.size w W)=>oI hG va a x v W (ha.on h) hv (Y.deg v) Y.w.len hx);have cB:=zH (λW (h:Below w.heap.size w W)=>oI hG vb b y v W (hb.on h) hv (kb.deg v) kb.w.len hy);have pA:=zH (λW (h:Below w.heap.size w W)=>mG hG va a p0 v W (ha.on h) hv (Y.deg v) Y.w.len hp1);have pB:=zH (λW (h:Below w.heap.size w W)=>mG hG vb b q0 v W (hb.on h) hv (kb.deg v) kb.w.len hq1);have dP:=zH (λW u (h:ak W u p)=>kD u p v W h hv kp.w.len);have dQ:=zH (λW u (h:ak W u q)=>kD u q v W h hv kq.w.len)
 have hB:Hid (∀W u1 u2,ak W u1 s->ak W u2 t->Calls Tryz.prog 59 #[u1,u2,.int .i64 v] W (ru W (.int .i64 I))):=zH (λW u1 u2 h1 h2=>by
  rcases B with ⟨-,rfl,rfl⟩|⟨-,rfl,rfl⟩
  ·exact DN u1 u2 _ _ v I W h1 h2 kq kp hv L np F
  ·exact DN u1 u2 _ _ v I W h1 h2 kp kq hv np L F)
 have n:=zH (λW u1 u2 (h1:ak W u1 x) (h2:ak W u2 y)=>hG u1 u2 x y c W h1 h2 a0);obtain⟨aa,ca,rfl,-⟩:=ha.shape;obtain⟨ab,cb,rfl,-⟩:=hb.shape;have hv0:¬(v:Int)<0:=oM;replace hG:=zH hG;replace hr:=zH hr;replace B:=zH B;replace hp2:=zH hp2;replace hq2:=zH hq2;clear ha hb na nb Y kb hx hy a0 hp1 hq1 kp kq np L F C;generalize a.length=la at *;generalize b.length=lb at *
 go_enter Tryz.func17,Tryz.ntmps17
 go_upto_region 8 with (go_at_call 57;refine hT.out.mono ?_;rintro e w1 ⟨rfl,hb1⟩)
 go_upto_region 9 with (first
  | (go_at_call 17;refine(n.out w3 _ _ (h2.on hb3) h3).mono ?_;rintro e w4 ⟨v4,rfl,h4,hb4⟩;have y4:=y3.trans (hb4.mono y3.size))
  | (go_at_call 19;refine(cB.out w2 y2).mono ?_;rintro e w3 ⟨v3,rfl,h3,hb3⟩;have y3:=y2.trans (hb3.mono y2.size))
  | (go_at_call 19;refine(cA.out w1 hb1).mono ?_;rintro e w2 ⟨v2,rfl,h2,hb2⟩;have y2:=hb1.trans (hb2.mono hb1.size)))
 clear hT cA cB n hb1 hb2 hb3 hb4 h2 h3 y2 y3
 go_upto_region 10 with (first
  | (go_at_call 15;refine(mH h7 hq2.out).mono ?_;rintro e w8 ⟨v8,rfl,h8,hb8⟩;have y8:=y7.trans (hb8.mono y7.size))
  | (go_at_call 21;refine(pB.out w6 y6).mono ?_;rintro e w7 ⟨v7,rfl,h7,hb7⟩;have y7:=y6.trans (hb7.mono y6.size))
  | (go_at_call 15;refine(mH h5 hp2.out).mono ?_;rintro e w6 ⟨v6,rfl,h6,hb6⟩;have y6:=y5.trans (hb6.mono y5.size))
  | (go_at_call 21;refine(pA.out w4 y4).mono ?_;rintro e w5 ⟨v5,rfl,h5,hb5⟩;have y5:=y4.trans (hb5.mono y4.size)))
 have z7:=hb7.trans (hb8.mono hb7.size);have z6:=hb6.trans (z7.mono hb6.size);have z5:=hb5.trans (z6.mono hb5.size);have hc8:=zH (h4.on z5);have hp8:=zH (h6.on z7);have hq8:=zH h8;clear pA pB hb5 hb6 hb7 hb8 h4 h5 h6 h7 h8 z5 z6 z7 y4 y5 y6 y7 hp2 hq2
 go_upto_if 48 with (first
  | (go_at_call 27;refine(dQ.out w9 _ (hq8.out.on hb9)).mono ?_;rintro e w10 ⟨rfl,hb10⟩;have z10:=hb9.trans (hb10.mono hb9.size))
  | (go_at_call 27;refine(dP.out w8 _ hp8.out).mono ?_;rintro e w9 ⟨rfl,hb9⟩))
 have hc10:=zH (hc8.out.on z10);have hp10:=zH (hp8.out.on z10);have hq10:=zH (hq8.out.on z10);have y10:=y8.trans (z10.mono y8.size);clear hc8 hp8 hq8 hb9 hb10 z10 y8 dP dQ
 go_cut [7,8,49,50] (λvs vt _ _ wc=>Hid (ak wc vs s)/\Hid (ak wc vt t)/\Below w10.heap.size w10 wc)
 case first =>
  rcases B.out with ⟨D,rfl,rfl⟩|⟨D,rfl,rfl⟩
  ·generalize aD t v=x1 at *;generalize aD s v=x2 at *;go_wp2;go_meet
   case rel=>exact⟨hq10,hp10,Below.refl _ _⟩
  ·generalize aD s v=x1 at *;generalize aD t v=x2 at *;go_wp2;go_meet
   case rel=>exact⟨hp10,hq10,Below.refl _ _⟩
 case rest =>
  clear hp10 hq10 B;obtain⟨hs,ht,S⟩:=hcut;have J:=zH (hc10.out.on S);have yc:=y10.trans (S.mono y10.size);clear hc10 S y10;rcases hr.out with ⟨rfl,o⟩|⟨hb0,N,z,d,a5,i⟩
  ·replace o:=zH o
   go_wp2_with (first
    | (go_at_call 59;refine(hB.out wc _ _ hs.out ht.out).mono ?_;rintro e w11 ⟨rfl,hb11⟩)
    | (go_at_call 15;refine(mH (J.out.on hb11) o.out).mono ?_;rintro e w12 ⟨v12,rfl,h12,hb12⟩))
   go_ret;exact⟨_,rfl,h12,yc.trans ((hb11.trans (hb12.mono hb11.size)).mono yc.size)⟩
  ·have a8:(I==0)=false:=by simpa using hb0
   replace d:=zH d;replace i:=zH i
   go_upto_region 14 with (go_at_call 59;refine(hB.out wc _ _ hs.out ht.out).mono ?_;rintro e w11 ⟨rfl,hb11⟩)
   have hs1:=zH (hs.out.on hb11);have ht1:=zH (ht.out.on hb11);have hc1:=zH (J.out.on hb11);have y11:=yc.trans (hb11.mono yc.size);clear hs ht J hb11 yc hB hr hb0
   go_loopg [7,8] N (λj vp vq wr=>∃p q,Hid (ak wr vp p)/\Hid (ak wr vq q)/\Hid (Aq G v j p q z)/\Below w11.heap.size w11 wr)
   case atStart=>exact⟨s,t,hs1,ht1,d,Below.refl _ _⟩
   case round =>
    clear hs1 ht1 d;obtain⟨p,q,hp,hq,d,k⟩:=hrel
    cases gk with
    | zero=>exact absurd d.out id
    | succ j =>
    rcases d.out with ⟨rfl,rfl⟩|⟨L,kp,kq,m,t',Z,hm9,a2,⟨p0,hd0,hl0,a1,X⟩,l⟩
    ·obtain⟨aq,cq,rfl,-⟩:=hq.out.shape;simp only[List.length_nil];have a3:=kD _ z v wr hp.out hv a5;have yr:=y11.trans (k.mono y11.size);rcases i.out with ⟨D,o⟩|⟨D,hm,o⟩
     ·replace o:=zH o;clear i d;generalize aD z v=x1 at *
      go_wp2_with (first
       | (go_at_call 27;refine a3.mono ?_;rintro e w12 ⟨rfl,hb12⟩)
       | (go_at_call 15;refine(mH (hc1.out.on (k.trans (hb12.mono k.size))) o.out).mono ?_;rintro e w13 ⟨v13,rfl,h13,hb13⟩))
      go_ret;exact⟨_,rfl,h13,yr.trans ((hb12.trans (hb13.mono hb12.size)).mono yr.size)⟩
     ·replace o:=zH o;clear i d;generalize aD z v=x1 at *
      go_wp2_with (first
       | (go_at_call 27;refine a3.mono ?_;rintro e w12 ⟨rfl,hb12⟩;have z12:=k.trans (hb12.mono k.size))
       | (go_at_call 12;refine(I5 hm.wp hm.wq hm.ms hm.ti (hc1.out.on z12) (hp.out.on hb12)).mono ?_;rintro e w13 ⟨v13,rfl,h13,hb13⟩)
       | (go_at_call 15;refine(mH h13 o.out).mono ?_;rintro e w14 ⟨v14,rfl,h14,hb14⟩))
      go_ret;exact⟨_,rfl,h14,yr.trans ((hb12.trans ((hb13.trans (hb14.mono hb13.size)).mono hb12.size)).mono yr.size)⟩
    ·have M:=Jh _ _ p q v m wr hp.out hq.out hv kp.w.len kq.w.len L Z (kp.deg v) hm9 a2;have a7:=List.length_pos_iff.2 L;obtain⟨aq,cq,rfl,-⟩:=hq.out.shape;have a6:(0:Int)<(q.length:Int):=oM;have a4:=zH (λW u (h:ak W u (PD v m (aN q v (m:Int)) q (aD p v - m+1).toNat p))=>mG hG.out u _ p0 v W h hv hd0 hl0 a1);generalize PD v m (aN q v (m:Int)) q (aD p v - m+1).toNat p=R1 at *;replace X:=zH X;replace l:=zH l;replace M:=zH M;clear d a2 Z kp kq L a1 hd0 hl0
     go_wp2_with (first
      | (go_at_call 60;refine M.out.mono ?_;rintro e w12 ⟨v12,rfl,h12,hb12⟩)
      | (go_at_call 21;refine(a4.out w12 _ h12).mono ?_;rintro e w13 ⟨v13,rfl,h13,hb13⟩)
      | (go_at_call 15;refine(mH h13 X.out).mono ?_;rintro e w14 ⟨v14,rfl,h14,hb14⟩))
     have z14:=hb12.trans ((hb13.trans (hb14.mono hb13.size)).mono hb12.size);go_roundg j
     case measure=>omega
     case rel=>exact⟨q,t',zH (hq.out.on z14),zH h14,l,k.trans (z14.mono k.size)⟩
theorem Mf{G:mE}(hG:FD G):FD (FE G):=by
 intro z C a b r w ha hb h;rcases h with ⟨rfl,h⟩|⟨d,rfl,h⟩|⟨d,o,j,kb,h⟩
 ·obtain⟨B,u,rfl,-⟩:=ha.shape;simp only[List.length_nil];replace h:=zH h;replace hb:=zH hb;clear ha
  go_enter Tryz.func17,Tryz.ntmps17
  go_wp2_with (go_at_call 15;refine(mH hb.out h.out).mono ?_;rintro e w2 ⟨v2,rfl,h2,hb2⟩)
  go_ret;exact⟨_,rfl,h2,hb2⟩
 ·have l:=DR d;have hN:=zH (mH ha h);obtain⟨B,u,rfl,-⟩:=ha.shape;obtain⟨D,S,rfl,-⟩:=hb.shape;simp only[List.length_nil];generalize a.length=la at *;clear ha hb d h
  go_enter Tryz.func17,Tryz.ntmps17
  go_wp2_with (go_at_call 15;refine hN.out.mono ?_;rintro e w2 ⟨v2,rfl,h2,hb2⟩)
  go_ret;exact⟨_,rfl,h2,hb2⟩
 ·rcases h with ⟨X,rfl⟩|⟨v,x,y,c,p,q,s,t,L,hv,i,M,N,m,hp,hq,kp,kq,F,J,n,k,hr⟩
  ·have hT:=zH (JQ z C a b w ha hb j.w.len kb.w.len);have l:=DR d;have I:=DR o;obtain⟨B,u,rfl,-⟩:=ha.shape;obtain⟨D,S,rfl,-⟩:=hb.shape;generalize wK a b 4=tv at *;generalize a.length=la at *;generalize b.length=lb at *;clear ha hb j kb d o
   go_enter Tryz.func17,Tryz.ntmps17
   go_wp2_with (first
    | (go_at_call 57;refine hT.out.mono ?_;rintro e w2 ⟨rfl,hb2⟩)
    | (go_at_call 58;refine(Po _).mono ?_;rintro e w3 ⟨v3,rfl,h3,hb3⟩))
   go_ret;exact⟨_,rfl,h3,hb2.trans (hb3.mono hb2.size)⟩
  ·exact Pp hG z C a b x y c p q s t r v L w ha hb d o j kb hv i M N m hp hq kp kq F J n k hr
theorem FH:∀n,FD (sS n)
 | 0=>λ_ _ _ _ _ _ _ _ h=>absurd h id
 | n+1=>Mf (FH n)
end Go.Proofs.YtopclbeomcggiaaGreat
end
section
namespace Q
open MP Go.Proofs.YtopclbeomcggiaaGreat
theorem Wn{D H b:Nat}{x:Rat}(d:0<D)(h:Dv D x)(k:(D:Rat)*bH x<=(H:Rat))(j:D<=2^b)(i:H<=2^b)(hb:b<7900000000):Rs x:=by obtain⟨e1,e⟩:=LW d h;rw[Q.rabs_int]at e;have l:x.num.natAbs<=H:=Rat.natCast_le_natCast.1 (Rat.le_trans e k);have b1:=AV (Nat.le_trans (Nat.le_of_dvd d e1) j);have m:=AV (Nat.le_trans l i);exact⟨oM,oM⟩
theorem UR{b:Nat}{p:MP}(k:In b p)(hb:b<7900000000):∀t∈p.l,Rs t.2:=λt h=>by obtain⟨D,H,j,i,m,e⟩:=k;refine Wn j (e.d t h) (Rat.le_trans (Rat.mul_le_mul_of_nonneg_left (tq h) (bQ D)) e.a) i m hb
theorem mg{d:Nat->Nat}{b:Nat}{p:MP}(hd:Dg d p)(h:In b p)(m:bx d<=10000)(hb:b<7900000000):W8 p.l:=by
 have i:=UO d
 have hp:∀t∈p.l,0<=t.1.1/\t.1.1<=10000/\0<=t.1.2.1/\t.1.2.1<=10000/\0<=t.1.2.2.1/\t.1.2.2.1<=10000/\0<=t.1.2.2.2/\t.1.2.2.2<=10000:=λt e=>by obtain⟨k,q,j,n,o,n1,n2,r⟩:=(hd.inB t e).parts;omega
 refine⟨⟨p.v,UR h hb,λt e=>?_,Nat.le_trans hd.len oM⟩,λt e u=>?_⟩
 ·have:=hp t e;refine InR.of (K:=10000) oM ?_;omega
 ·have:=hp t e;rcases u with _|_|_|u<;>simp only[Ex.get]<;>omega
theorem oJ{d:Nat->Nat}{b:Nat}{p:MP}(hd:Dg d p)(m:In b p)(o:bx d<=10000)(hb:b<7900000000):nP p.l (nrm p).l:=by
 by_cases i:p=0
 ·rw[i,jJ];exact .inl ⟨rfl,rfl⟩
 ·obtain⟨t,l,e⟩:=je i;have n:=(mg hd m o hb).w;have k:=m.inv i;rw[xY e]at k;have s:t.2≠0:=(p.v.2 t (by rw[e];simp)).1
  have j:(MP.c (1/t.2)).l=[(e0,1/t.2)]:=by
   have:(1/t.2:Rat)≠0:=by intro h;have q:(1/t.2)*t.2=1:=gR;rw[h]at q;grind
   show bZ (1/t.2)=_;rw[bZ,if_neg this]
  have r:=UR k hb (e0,1/t.2) (by rw[j];simp);have u:(nrm p).l=bN p.l (1/t.2):=by rw[nrm,xY e,sF]
  rw[u,e];rw[e]at n;exact .inr ⟨t,l,rfl,n,r,rfl⟩
theorem Sg{b:Nat}{p q:MP}(h:In b p)(i:q.l.Sublist p.l):In b q:=by obtain⟨D,H,m,j,n,e⟩:=h;exact⟨D,H,m,j,n,λt k=>e.d t (i.subset k),Rat.le_trans (Rat.mul_le_mul_of_nonneg_left (xZ i) (bQ D)) e.a⟩
theorem Si{b d:Nat}{p q:MP}(h:In b p)(j:In d q):In (b+d) (p*q):=by obtain⟨D,H,n,e,k,m⟩:=h;obtain⟨r,l,g1,s,i,o⟩:=j;exact⟨D*r,H*l,Nat.mul_pos n g1,by rw[Nat.pow_add];exact Nat.mul_le_mul e s,by rw[Nat.pow_add];exact Nat.mul_le_mul k i,m.mul o⟩
theorem Sj{d:Nat->Nat}{p q:MP}(h:Dg d p)(e:q.l.Sublist p.l):Dg d q:=NA λt b=>h.inB t (e.subset b)
theorem G5{dp dq d:Nat->Nat}{p q:MP}(hp:Dg dp p)(hq:Dg dq q)(hd:∀w,w<4->dp w+dq w<=d w):Dg d (p*q):=λw b=>by have h:=hp w b;have e:=hq w b;have i:=hd w b;exact Int.le_trans (bT w p q h e oM) oM
theorem sN{dp dq d:Nat->Nat}{b s:Nat}{p q:MP}(hp:Dg dp p)(hq:Dg dq q)(hd:∀w,w<4->dp w+dq w<=d w)(ip:In b p)(y:In s q)(o:bx d<=10000)(hb:b+s < 7900000000):xO p.l q.l:=by
 have hsub:∀r:MP,r.l.Sublist q.l->W8 (p*r).l:=λr x=>mg (G5 hp (Sj hq x) hd) (Si ip (Sg y x)) o hb;have m:Dg d p:=λw i=>by have h:=hp w i;have e:=hd w i;omega
 have j:Dg d q:=λw i=>by have h:=hq w i;have e:=hd w i;omega
 have wp:=mg m ip o oM;have wq:=mg j y o oM;refine⟨wp.w,wq.w,λk=>(hsub ⟨q.l.take k,q.v.sublist (List.take_sublist _ _)⟩ (List.take_sublist _ _)).w,λu hu=>⟨?_,λt B=>?_⟩⟩
 ·have n:[u].Sublist q.l:=List.singleton_sublist.2 hu;rw[zA p.v (q.v.sublist n)];exact(hsub ⟨[u],q.v.sublist n⟩ n).w
 ·have h:=wp.exps t B;have e:=wq.exps u hu;have F:=h 0;have E:=h 1;have C:=h 2;have z:=h 3;have c0:=e 0;have c1:=e 1;have c2:=e 2;have D:=e 3;simp only[Ex.get]at F E C z c0 c1 c2 D;refine InR.of (K:=2000000) oM ?_;simp only[Ex.add];omega
theorem NS{g:ai}{ts:List ai}(hb:Wr (g::ts)):∀(s out:List ai),bR s->(∀e:List ai,e.Sublist s->Wr (aX e (g::ts)))->(∀x∈s,Wr [x]/\Wr (aX (g::ts) [x])/\∀t∈g::ts,InR (t.1.add x.1))->out.length+s.length<=100000000 ->
  wJ (g::ts) g s.length (aX s (g::ts)) out (some (out++s))
 | [],out,_,_,_,_=>by rw[List.append_nil];exact .done
 | x::s,out,vs,hm,hx,hn=>by have hz:=(hb.v.2 g sM).1;have d:=vs.2 x sM;obtain⟨x1,x2,p⟩:=hx x sM;obtain⟨o,l⟩:=AO vs hb.v;obtain⟨a,ha⟩:=AL (bR.mul _ _) (jr d.1 hz) o l;have k:=hm (x::s) (List.Sublist.refl _);have n:=NS hb s (out++[x]) vs.tail (λe h=>hm e (h.trans (List.sublist_cons_self _ _))) (λt m=>hx t (by simp[m])) (by simp at hn ⊢;omega);have i:=Cy vs hb.v bR.nil;rw[xG (bR.mul _ _),xG (bR.mul _ _)]at i;rw[ha]at k i ⊢;have b:=Cx (x:=x) hz;have j:((x.1.add g.1).sub g.1)=x.1:=congrArg Prod.fst b;refine .step (by show((x.1.add g.1).sub g.1).nat=true;rw[j];exact d.2) k (by show InR ((x.1.add g.1).sub g.1);rw[j];exact x1.ir x sM) (by rw[b];exact x1) (by rw[b];exact x2) (by rw[b];exact p) (by simp at hn;omega) ?_;rw[b,i];simpa using n
theorem NT{dq dz d:Nat->Nat}{b k:Nat}{q z:MP}{g:ai}{ts:List ai}(i:z.l=g::ts)(hq:Dg dq q)(hz:Dg dz z)(hd:∀w,w<4->dq w+dz w<=d w)(m:In b q)(u:In k z)(n:bx d<=10000)(hb:b+k<7900000000) :
  Wr (g::ts)/\wJ (g::ts) g q.l.length (q*z).l [] (some q.l):=by
 have D:=sN hq hz hd m u n hb;have s:Dg d q:=λw o=>by have F:=hq w o;have E:=hd w o;omega
 have wq:=mg s m n oM;have C:Wr (g::ts):=i▸D.wq;refine⟨C,?_⟩
 have B:∀r:List ai,r.Sublist q.l->Wr (aX r (g::ts)):=λr h=>by have:=(sN (p:=⟨r,q.v.sublist h⟩) (Sj hq h) hz hd (Sg m h) u n hb).ms z.l.length;rw[List.take_of_length_le (Nat.le_refl _),i]at this;exact this
 have y:=sN hz hq (λw o=>by have:=hd w o;omega) u m n oM;have:=NS C q.l [] q.v B (λx j=>?_) (by simpa using wq.w.len)
 ·have e:(q*z).l=aX q.l (g::ts):=by rw[<-i];rfl
  rw[e];simpa using this
 ·obtain⟨t1,t2⟩:=y.ti x j;have h:[x].Sublist q.l:=List.singleton_sublist.2 j;rw[zA z.v (q.v.sublist h),i]at t1;rw[i]at t2;exact⟨wq.w.sub h,t1,t2⟩
def zB (d:Nat->Nat) (b:Nat) (G:mE):Prop:=∀x y:MP,Dg d x->Dg d y->In b x->In b y->∃g:MP,G x.l y.l g.l/\NG g x y
def XL (G:mE):Prop:=∀(d:Nat->Nat)(b:Nat)(x:MP),Dg d x->In b x->bx d<=10000->b<7900000000->G [] x.l (nrm x).l
theorem JR{v x:Nat}{L:nu}(h:qm v L)(F:x<=L.br){G:mE}(D:zB (dN v L.E 0) L.bE G):∀(l:List (List ai))(b:MP),(∀c∈l,XA v L x c) ->
  (b=0\/(hd b=1/\∃f:MP,f≠0/\b∣f/\Dg (dN v L.E 0) f/\In x f)) ->
  ∃g:MP,mF G l b.l g.l/\g∣b/\(∀f:MP,f.l∈l->g∣f)/\(∀d,d∣b->(∀f:MP,f.l∈l->d∣f)->d∣g)/\(g≠0->hd g=1)
 | [],b,_,ha=>⟨b,rfl,dvd_refl _,λf hf=>(by cases hf),λd h _=>h,λy=>ha.elim (λe=>absurd e y) λe=>e.1⟩
 | c::l,b,hl,ha=>by
  obtain⟨f,rfl,C,hf⟩:=hl c sM
  have j:Dg (dN v L.E 0) b/\In L.bE b:=by
   rcases ha with e|⟨s,p,f0,o,z,B⟩
   ·rw[e];exact⟨λw _=>by rw[deg_zero];omega,In.zero _⟩
   ·obtain⟨O,I⟩:=rf h s f0 o z B;exact⟨O,I.mono (NI F)⟩
  obtain⟨g,N,hg⟩:=D b f j.1 C j.2 (hf.mono (by unfold nu.bE;omega))
  obtain⟨k,e,H,M,J,K⟩:=JR h F D l g (λc hc=>hl c (by simp[hc])) (by
   by_cases q:g=0
   ·exact .inl q
   ·refine .inr ⟨hg.n q,?_⟩;by_cases f0:f=0
    ·rcases ha with e|⟨-,p,y,o,z,B⟩
     ·exact absurd (zero_dvd (hg.i.u 0 (by rw[e];exact dvd_refl 0) (by rw[f0];exact dvd_refl 0))) q
     ·exact⟨p,y,dvd_trans hg.i.l o,z,B⟩
    ·exact⟨f,f0,hg.i.r,C,hf⟩)
  refine⟨k,⟨g.l,N,e⟩,dvd_trans H hg.i.l,λp m=>?_,λd s o=>J d (hg.i.u d s (o f sM)) λf hf=>o f (by simp[hf]),K⟩;rcases List.mem_cons.1 m with e|m
  ·rw[MP.eq_of e];exact dvd_trans H hg.i.r
  ·exact M p m
theorem NU{v:Nat}{a g:MP}(k:∀f:MP,f.l∈aA a.l v->g∣f)(j:∀d,d∣0->(∀f:MP,f.l∈aA a.l v->d∣f)->d∣g):tZ v g a:=by
 have b:∀n,g∣a.co v n:=λn=>by
  rcases Nat.lt_or_ge n (aD a.l v+1).toNat with h|h
  ·refine k _ ?_;show aN a.l v n∈aA a.l v;exact List.mem_map.2 ⟨n,List.mem_range.2 h,rfl⟩
  ·rw[co_above (by have e:a.deg v=aD a.l v:=rfl;have:=deg_ge v a;omega)];exact dvd_zero g
 have hf:g.fr v:=by
  by_cases ha:a=0
  ·have:g=0:=by
    have m:=j 0 (dvd_refl 0) λf hf=>by rw[ha]at hf;cases hf
    exact zero_dvd m
   rw[this];exact oC v
  ·exact rP (lc_ne ha v) (b _) (lc_fr v a)
 refine⟨hf,(dvd_iff_co hf a).2 b,λd hd i=>j d (dvd_zero d) λf hf=>?_⟩;obtain⟨n,h⟩:=eu hf;have:f=a.co v n:=MP.eq_of h;rw[this];exact(dvd_iff_co hd a).1 i n
theorem DT{v x:Nat}{L:nu}(h:qm v L)(p:x<=L.br){G:mE}(u:zB (dN v L.E 0) L.bE G){a:MP}(j:a.lo (v+1))(ha:∀w,w<v->a.deg w<=L.E)(m:In x a) :
  ∃g:MP,mF G (aA a.l v) [] g.l/\tZ v g a/\(g≠0->hd g=1)/\(a≠0->Dg (dN v L.E 0) g/\In (L.cz v x) g):=by
 obtain⟨g,s,-,b,r,o⟩:=JR h p u (aA a.l v) 0 (λc hc=>by
  obtain⟨n,e⟩:=eu hc;obtain⟨i,b⟩:=zz h j ha m n
  exact⟨a.co v n,e.symm,i,b⟩) (.inl rfl)
 have hg:=NU b r;refine⟨g,s,hg,o,λk=>?_⟩;have q:=dvd_ne k hg.d;obtain⟨i,b⟩:=zz h j ha m (a.deg v).toNat;exact rf h (o q) (lc_ne k v) ((dvd_iff_co hg.f a).1 hg.d _) i b
theorem G6{v:Nat}{G:mE}{a g q:MP}{d:Nat->Nat}{b k:Nat}(j:a≠0)(hc:mF G (aA a.l v) [] g.l)(e:a=q*g)
  (ha:Dg d a) (m:In b q) (s:In k g) (o:bx d<=10000) (hb:b+k<7900000000) (hv:v<4) :
  PH G a.l v (nrm q).l:=by
 have p:q≠0:=λh=>j (by rw[e,h];grind);have i:g≠0:=λh=>j (by rw[e,h];grind);have n:Dg d q:=ha.dvd j ⟨g,e⟩
 have z:∀w,w<4->(q.deg w).toNat+(g.deg w).toNat<=d w:=λw B=>by have r:=ha w B;rw[e,deg_mul p i]at r;have:=deg_pos p w;have:=deg_pos i w;omega
 obtain⟨t,l,u⟩:=je i;obtain⟨r,y⟩:=NT u (dq:=λw=>(q.deg w).toNat) (dz:=λw=>(g.deg w).toNat) (λw _=>by show q.deg w<=((q.deg w).toNat:Int);have:=deg_pos p w;omega) (λw _=>by show g.deg w<=((g.deg w).toNat:Int);have:=deg_pos i w;omega) z m s o hb;have x:=mg ha (by rw[e];exact Si m s) o hb;refine⟨q.l,x.deg v,x.w.len,?_,oJ n m o oM⟩;refine .inr ⟨λh=>j (zero_iff.2 h),t,l,q.l.length,by rw[<-u];exact hc,r,by rw[e];exact y⟩
theorem XM(v i:Nat):qJ (rz v) i=(xk v i).l:=by
 have e:(⟨qJ (rz v) i,bR.pow _ _⟩:MP)=xk v i:=ext' λx=>by rw[ev_xk];show ev x (qJ (rz v) i)=_;rw[ev_pow x (bR.var v).nat,PN]
 exact congrArg MP.l e
theorem Sk(v i:Nat):qI 1 1 (xk v i):=by
 refine⟨λt b=>?_,?_⟩
 ·have b:t∈[(e0.put v i,(1:Rat))]:=b;rw[List.mem_singleton.1 b];exact⟨1,by show(1:Rat)*((1:Nat):Rat)=((1:Int):Rat);decide +kernel⟩
 ·show((1:Nat):Rat)*(bH 1+0)<=((1:Nat):Rat);decide +kernel
theorem UT(v i:Nat):In 0 (xk v i):=⟨1,1,oM,sM,sM,Sk v i⟩
theorem UU{v i:Nat}(hv:v<4):Dg (dN v 0 i) (xk v i):=λw b=>by
 unfold dN;by_cases h:w=v
 ·subst h;rw[if_neg oM,if_pos rfl,deg_xk];omega
 ·rw[qP b hv (λe=>h e.symm)];omega
theorem UV{v x t:Nat}(hv:v<4){p:MP}(h:Dg (dN v x t) p)(n:Nat):Dg (dN v x 0) (p.co v n):=λw i=>by
 have e:=qO v n p i hv (h w i);unfold dN at *;split
 ·rename_i b;rwa[if_pos b]at e
 ·rename_i b;by_cases d:w=v
  ·subst d;have:(p.co w n).deg w<=0:=co_fr w n p;rw[if_pos rfl];omega
  ·rw[if_neg b,if_neg d]at e;rw[if_neg d];exact e
theorem sU{v x t x' t':Nat}(hv:v<4)(d:x<=x')(b:t<=t')(h:(t'+1)*(x'+1)^v<=10000):bx (dN v x t)<=10000:=by rw[zy hv];exact Nat.le_trans (Nat.mul_le_mul oM (Nat.pow_le_pow_left oM v)) h
theorem uZ{v x t x' t' X T:Nat}(d:x+x'<=X)(b:t+t'<=T)(w:Nat):dN v x t w+dN v x' t' w<=dN v X T w:=by
 unfold dN;split
 ·exact d
 ·split
  ·exact b
  ·omega
theorem Uk{v n i A al M X B:Nat}{y x:MP}(hv:v<4)(hn:y.deg v=(n:Int))(o:Dg (dN v A n) y)(b:In al y)(m:Dg (dN v X M) x)(h:In B x)(hM:n+i<=M)(hx:x.deg v<((n+i+1:Nat):Int))(hb:(M+1)*(X+A+1)^v<=10000)(hs:B+(al+1)<7900000000) :
  xO (x.co v (n+i)).l (qJ (rz v) i)/\xO (y.co v n).l x.l/\xO (CU v n x.l i) y.l/\Wr (aX (y.co v n).l x.l)/\Wr (aX (CU v n x.l i) y.l) /\
   ∃z:MP,CV v n (y.co v n).l y.l x.l i=z.l/\z=y.co v n*x-(x.co v (n+i)*xk v i)*y/\Dg (dN v (X+A) M) z/\In (B+(al+1)) z/\z.deg v<((n+i:Nat):Int):=by
 have G:CU v n x.l i=(x.co v (n+i)*xk v i).l:=by rw[CU,XM];rfl
 have E:=UV hv o n;have s:=UV hv m (n+i);have F:=b.co v n;have K:=h.co v (n+i);have C:Dg (dN v X i) (x.co v (n+i)*xk v i):=G5 s (UU hv) λw _=>uZ oM oM w;have L:In B (x.co v (n+i)*xk v i):=(K.mul (UT v i)).mono oM;have m1:xO (x.co v (n+i)).l (xk v i).l:=sN (d:=dN v X i) s (UU hv) (λw _=>uZ oM oM w) K (UT v i) (sU hv oM oM hb) oM;have m2:xO (y.co v n).l x.l:=sN (d:=dN v (X+A) M) E m (λw _=>uZ oM oM w) F h (sU hv (Nat.le_refl _) (Nat.le_refl _) hb) oM;have m3:xO (x.co v (n+i)*xk v i).l y.l:=sN (d:=dN v (X+A) M) C o (λw _=>uZ oM oM w) L b (sU hv (Nat.le_refl _) (Nat.le_refl _) hb) oM;have d2:Dg (dN v (X+A) M) (y.co v n*x):=G5 E m λw _=>uZ oM oM w;have d3:Dg (dN v (X+A) M) (x.co v (n+i)*xk v i*y):=G5 C o λw _=>uZ oM oM w;have O:Wr (aX (y.co v n).l x.l):=(mg d2 (F.mul h) (sU hv (Nat.le_refl _) (Nat.le_refl _) hb) oM).w;have R:Wr (aX (x.co v (n+i)*xk v i).l y.l):=(mg d3 (L.mul b) (sU hv (Nat.le_refl _) (Nat.le_refl _) hb) oM).w;rw[XM,G];refine⟨m1,m2,m3,O,R,y.co v n*x-(x.co v (n+i)*xk v i)*y,?_,rfl,λw r=>?_,?_,?_⟩
 ·rw[CV,G];rfl
 ·have h1:=d2 w r;have h2:=d3 w r;have h3:=mU w (y.co v n*x) ((x.co v (n+i)*xk v i)*y);omega
 ·obtain⟨D,H,a1,W,N,I⟩:=h;obtain⟨J,j,b1,Z,Y,u⟩:=b;have k1:=(u.co v n).mul I;have q:=((I.co v (n+i)).mul (Sk v i)).mul u;rw[Nat.mul_one,Nat.mul_one,Nat.mul_comm D J,Nat.mul_comm H j]at q;have g1:=Nat.mul_le_mul Z W;have S:=Nat.mul_le_mul Y N;rw[<-Nat.pow_add]at g1 S
  have g3:2^(al+B)+2^(al+B)=2^(B+(al+1)):=by rw[(oM:B+(al+1)=(al+B)+1),Nat.pow_succ];omega
  exact⟨J*D,j*H+j*H,Nat.mul_pos b1 a1,oM,oM,k1.sub q⟩
 ·have h0:(y.co v n*x-(x.co v (n+i)*xk v i)*y).deg v<=((n+i:Nat):Int)-1:=by
   refine deg_le_of oM λk hk=>?_;rw[co_sub,co_mul_fr (co_fr v n y),(gR:(x.co v (n+i)*xk v i)*y=x.co v (n+i)*(xk v i*y)),co_mul_fr (co_fr v (n+i) x),co_xk,if_pos oM];rcases Nat.eq_or_lt_of_le (oM:n+i<=k)with e|hlt
   ·rw[<-e,(oM:n+i-i=n)];grind
   ·rw[co_above (p:=x) (n:=k) oM,co_above (p:=y) (n:=k-i) oM];grind
  omega
theorem Mg{v n A al M:Nat}{y:MP}(hv:v<4)(m:y.deg v=(n:Int))(p:Dg (dN v A n) y)(h:In al y):∀(i X B:Nat)(x:MP),Dg (dN v X M) x->In B x->n+i<=M+1->x.deg v<((n+i:Nat):Int)->(M+1)*(X+i*A+1)^v<=10000->B+i*(al+1)<7900000000 ->
  Lh v n (y.co v n).l y.l i x.l/\∃r:MP,PD v n (y.co v n).l y.l i x.l=r.l/\Dg (dN v (X+i*A) M) r/\In (B+i*(al+1)) r/\r.deg v<(n:Int)/\∃(t:MP)(s:Nat),(y.co v n)^s*x=t*y+r
 | 0,X,B,x,dx,ix,hM,hx,hb,hs=>by
  rw[Nat.zero_mul,Nat.add_zero]at hb hs;rw[Nat.zero_mul,Nat.add_zero,Nat.zero_mul,Nat.add_zero];refine⟨?_,x,rfl,dx,ix,hx,0,0,?_⟩
  ·have j:=dx.len;have e:=sU hv (Nat.le_refl X) (Nat.le_refl M) hb;show x.l.length<=100000000;omega
  ·have b:(y.co v n)^0=1:=gR;rw[b];grind
 | i+1,X,B,x,dx,ix,hM,hx,hb,hs=>by
  have q:X+(i+1)*A=X+A+i*A:=by rw[Nat.add_mul,Nat.one_mul];omega
  have k:B+(i+1)*(al+1)=B+(al+1)+i*(al+1):=by rw[Nat.add_mul,Nat.one_mul];omega
  rw[q]at hb;rw[k]at hs;rw[q,k];obtain⟨m1,K,H,G,J,z,o,d,dz,D,hz⟩:=Uk (i:=i) hv m p h dx ix oM (by rw[Nat.add_assoc];exact hx) (Nat.le_trans (Nat.mul_le_mul_left _ (Nat.pow_le_pow_left oM v)) hb) oM;obtain⟨j,r,e,I,L,E,t,s,F⟩:=Mg hv m p h i (X+A) (B+(al+1)) z dz D oM hz hb hs;have C:M+1<=10000:=Nat.le_trans (Nat.le_mul_of_pos_right _ (Nat.pow_pos oM)) hb;refine⟨⟨oM,m1,K,H,G,J,by rw[o];exact j⟩,r,by rw[PD,o];exact e,I,L,E,t+(y.co v n)^s*(x.co v (n+i)*xk v i),s+1,?_⟩;have b:(y.co v n)^(s+1)=(y.co v n)^s*y.co v n:=gR;rw[b];have u:(y.co v n)^s*y.co v n*x=(y.co v n)^s*z+(y.co v n)^s*(x.co v (n+i)*xk v i)*y:=by rw[d];grind
  rw[u,F];grind
structure Ul (v:Nat) (L:nu) (pb:Nat):Prop where
 q1:(L.M+1)*(L.b1 v+1)<=pb
 qk:∀k,k<L.M+1->2<=k->(k+1)*(L.mu v (L.U k)+1)<=pb
 z:pb+(if v=0 then 0 else pb)<7900000000
 x1:L.br+L.mu v (2*L.M)+L.cz v L.br<7900000000
 x2:L.b1 v+L.cz v L.b<7900000000
 fin:L.bE+L.mu v (2*L.M)<7900000000
 w1:L.mu v (2*L.M)+(L.M+1)<7900000000
theorem NV(G:mE)(v:Nat):PH G [] v []:=⟨[],by show(-1:Int)<=900000;omega,sM,.inl ⟨rfl,rfl⟩,.inl ⟨rfl,rfl⟩⟩
theorem JS(G:mE)(v n:Nat)(p:List ai):Aq G v (n+1) p [] p:=.inl ⟨rfl,rfl⟩
theorem JU{v X B M:Nat}{G:mE}{x:MP}(hv:v<4)(s:x≠0)(b:Dg (dN v X M) x)(d:In B x)(hb:(M+1)*(X+1)^v<=10000)(y:B+(M+1)<7900000000)(n:Nat):Aq G v (n+2) x.l (1:MP).l (1:MP).l:=by
 obtain⟨k,q⟩:∃k:Nat,x.deg v=k:=⟨(x.deg v).toNat,by have:=deg_pos s v;omega⟩;have j:=b.top hv;have d1:Dg (dN v 0 0) (1:MP):=λw _=>by rw[Aw];omega
 obtain⟨m,r,e,-,-,u,-⟩:=Mg (M:=M) (n:=0) hv (Aw v) d1 (In.one 0) (k+1) X B x b d oM oM (by rw[Nat.mul_zero,Nat.add_zero];exact hb) (by rw[Nat.zero_add,Nat.mul_one];omega);have p:r=0:=Classical.byContradiction λh=>by have:=deg_pos h v;omega
 have i:=mg b d (sU hv (Nat.le_refl _) (Nat.le_refl _) hb) oM;have w1:W8 (1:MP).l:=mg d1 (In.one 0) (sU hv (Nat.zero_le X) (Nat.zero_le M) hb) oM;have e1:aD x.l v=k:=q;have es:(aD x.l v-((0:Nat):Int)+1).toNat=k+1:=oM;refine .inr ⟨λh=>one_ne (zero_iff.2 h),i,w1,0,[],Aw v,oM,by rw[es];exact m,?_,JS G v n _⟩;have o:PD v 0 (aN (1:MP).l v ((0:Nat):Int)) (1:MP).l (aD x.l v-((0:Nat):Int)+1).toNat x.l=[]:=by rw[es];exact e.trans (by rw[p];rfl)
 rw[o];exact NV G v
theorem Pq{a:MP}(h:a≠0):nrm (c (hd a))=1:=by have e:c (hd a)*1=c (hd a):=gR;rw[<-e,yf (vF h),AX uC]
theorem Um{v X B:Nat}{G:mE}{r:MP}(j:XL G)(hv:v<4)(b:r≠0)(k:r.deg v<=0)(h:Dg (dN v X 0) r)(ir:In B r)(hb:(X+1)^v<=10000)(i:B+(if v=0 then 0 else B)<7900000000):PH G r.l v (1:MP).l:=by
 have d:bx (dN v X 0)<=10000:=by rw[zy hv];omega
 have hc:mF G (aA r.l v) [] (nrm r).l:=by
  have m:=deg_pos b v;have e0:aD r.l v=r.deg v:=rfl
  have e1:aA r.l v=[r.l]:=by unfold aA;rw[(oM:(aD r.l v+1).toNat=1)];show [(r.co v 0).l]=_;rw[F9 k]
  rw[e1];exact⟨_,j _ _ r h ir d oM,rfl⟩
 have hz:In (if v=0 then 0 else B) (nrm r):=by
  split
  ·rename_i e;subst e;obtain⟨s,rfl⟩:=jX h.lo0;have i:s≠0:=λe=>b (by rw[e,BZ]);have e:c s*1=c s:=gR;rw[<-e,yf i,AX uC];exact In.one 0
  ·exact ir.nrm
 have:=G6 (q:=c (hd r)) b hc (qZ b) h (ir.hd b) hz d i hv;rwa[Pq b]at this
theorem NW{v pb:Nat}{L:nu}(h:qm v L)(h8:Ul v L pb){G:mE}(hX:zB (dN v L.E 0) L.bE G)(hN:XL G)
  {p q:MP} (p0:p≠0) (q0:q≠0) (lp:p.lo (v+1)) (lq:q.lo (v+1)) (hp:∀w,w<v->p.deg w<=L.d) (hq:∀w,w<v->q.deg w<=L.d) (ip:In (L.b1 v) p) (iq:In (L.b1 v) q) (hm:p.deg v<=L.M) (hn:q.deg v<=L.M) :
  ∀(n:Nat)(x y:MP)(U:Nat),y.deg v+2<n->Sq v p q x y->x.prim v->y.prim v->x.lo (v+1)->y.lo (v+1)->(∀w,w<v->x.deg w<=((U*L.d:Nat):Int))->(∀w,w<v->y.deg w<=((U*L.d:Nat):Int))->In (L.mu v U) x->In (L.mu v U) y ->
   1<=U->U<=2*L.M->(U=1\/((U:Int)+2*x.deg v=2*(L.M:Int)+2/\y.deg v<x.deg v))->1<=y.deg v->y.deg v<=x.deg v->x.deg v<=L.M->y.deg v<=p.deg v->y.deg v<=q.deg v ->
   ∃s:MP,Aq G v n x.l y.l s.l/\In (L.mu v (2*L.M)) s/\lC s x y
 | 0,x,y,U,hlt,_,_,_,_,_,_,_,_,_,_,_,_,o,_,_,_,_=>by omega
 | n+1,x,y,U,hlt,hS,px,py,lx,ly,dx,dy,ix,iy,hU1,hU2,hUc,hy1,hyx,hxM,hyp,hyq=>by
  have hv:=h.hv;have HG:=yP v oM;have y0:=cZ py;have x0:=cZ px;obtain⟨k,hk⟩:∃k:Nat,x.deg v=k:=⟨(x.deg v).toNat,oM⟩;obtain⟨j,hj⟩:∃j:Nat,y.deg v=j:=⟨(y.deg v).toNat,oM⟩
  have a0:(k-j+1+1)*(U*L.d)<=L.P/\(k-j+1+1)*(L.mu v U+1)<=pb:=by
   rcases hUc with e|⟨e,a3⟩
   ·subst e;have o:=h.p1;have a2:=h8.q1;have m:=Nat.mul_le_mul_right (1*L.d) (oM:k-j+1+1<=L.M+1);have h3:=Nat.mul_le_mul_right (L.mu v 1+1) (oM:k-j+1+1<=L.M+1);have h4:L.mu v 1=L.b1 v:=if_pos rfl;rw[h4]at h3 ⊢;omega
   ·have o:=h.pk k oM oM;have a2:=h8.qk k oM oM;have Z:L.U k=U:=by unfold nu.U;omega
    rw[Z]at o a2;have m:=Nat.mul_le_mul_right (U*L.d) (oM:k-j+1+1<=k+1);have h3:=Nat.mul_le_mul_right (L.mu v U+1) (oM:k-j+1+1<=k+1);omega
  have hz:=h8.z;have ed:U*L.d+(k-j+1)*(U*L.d)=(k-j+1+1)*(U*L.d):=by rw[Nat.add_one_mul (k-j+1)];omega
  have eb:L.mu v U+(k-j+1)*(L.mu v U+1)+1=(k-j+1+1)*(L.mu v U+1):=by rw[Nat.add_one_mul (k-j+1)];omega
  have a9:(L.M+1)*(U*L.d+(k - j+1)*(U*L.d)+1)^v<=10000:=Nat.le_trans (Nat.mul_le_mul_left _ (Nat.pow_le_pow_left (by have:=a0.1;omega) v)) h.bP;have al:Dg (dN v (U*L.d) L.M) x:=sK lx dx oM;have ax:Dg (dN v (U*L.d) j) y:=sK ly dy oM;have aa:Dg (dN v (U*L.d) L.M) y:=sK ly dy oM;have N:(L.M+1)*(U*L.d+1)^v<=10000:=Nat.le_trans (Nat.mul_le_mul_left _ (Nat.pow_le_pow_left oM v)) a9;have wx:=mg al ix (sU hv (Nat.le_refl _) (Nat.le_refl _) N) oM;have wy:=mg aa iy (sU hv (Nat.le_refl _) (Nat.le_refl _) N) oM;obtain⟨f1,r,f2,f3,f4,f5,t,s',K⟩:=Mg (M:=L.M) hv hj ax iy (k - j+1) (U*L.d) (L.mu v U) x al ix oM oM a9 oM;rw[ed]at f3;replace f4:In ((k - j+1+1)*(L.mu v U+1)) r:=f4.mono oM;have ao:y.co v j=y.lc v:=by unfold MP.lc;rw[hj];rfl
  have bd:aD y.l v=(j:Int):=hj;have b8:aD x.l v=(k:Int):=hk;have es:(aD x.l v-(j:Int)+1).toNat=k-j+1:=oM;have b7:L.M+1<=10000:=Nat.le_trans (Nat.le_mul_of_pos_right _ (Nat.pow_pos oM)) N;have a8:L.mu v U<=L.mu v (2*L.M):=yj h hU1 hU2 (Nat.le_refl _)
  -- one round of the sequence
  have B:∀(t s:List ai),PH G r.l v t->Aq G v n y.l t s->Aq G v (n+1) x.l y.l s:=λt s o m=>by
   refine .inr ⟨λe=>y0 (zero_iff.2 e),wx,wy,j,t,hj,oM,by rw[es];exact f1,?_,m⟩;have Z:PD v j (aN y.l v (j:Int)) y.l (aD x.l v-(j:Int)+1).toNat x.l=r.l:=by rw[es];exact f2
   rw[Z];exact o
  rw[ao]at K;have S:=uX hv ly s';have H:=GU (lc_ne y0 v) s';have I:∀d:MP,d.prim v->d∣y->d∣r->d∣x:=λd pd o m=>eB HG hv lx pd S H (by rw[K];exact dvd_add (dvd_mul_of' o t) m)
  have hrem:∀d:MP,d∣x->d∣y->d∣r:=λd o m=>by
   have Z:r=(y.lc v)^s'*x-t*y:=by rw[K];grind
   rw[Z];exact dvd_sub (dvd_mul_of' o _) (dvd_mul_of' m _)
  by_cases b:r=0
  ·refine⟨y,B [] y.l (by rw[b];exact NV G v) ?_,iy.mono a8,I y py (dvd_refl y) (by rw[b];exact dvd_zero y),dvd_refl y,λd _ h=>h⟩;obtain⟨n',rfl⟩:∃n',n=n'+1:=⟨n - 1,oM⟩;exact JS G v n' _
  have ba:=deg_pos b v;by_cases a7:r.deg v<=0
  ·obtain⟨n',rfl⟩:∃n',n=n'+2:=⟨n - 2,oM⟩;have b4:Dg (dN v L.P 0) r:=sK f3.lo (λw W=>by have:=f3.low hv w W;have:=a0.1;omega) a7;have b2:(L.P+1)^v<=10000:=Nat.le_trans (Nat.le_mul_of_pos_left _ oM) h.bP;have bc:=h8.w1;refine⟨1,B (1:MP).l (1:MP).l (Um hN hv b a7 b4 (f4.mono a0.2) b2 hz) (JU hv y0 aa iy N oM n'),In.one _,unit_dvd unit_one x,unit_dvd unit_one y,λd o m=>?_⟩;have hd:=dvd_deg b (hrem d o m) v;exact py d (by show d.deg v<=0;omega) m
  have ar:1<=r.deg v:=oM
  have a6:(k-j+1+1)*(U*L.d)<=L.E/\(k-j+1+1)*(L.mu v U+1)<=L.br:=by
   rcases hUc with e|⟨e,a3⟩
   ·subst e;have o:=h.e1;have m:=Nat.mul_le_mul_right (1*L.d) (oM:k-j+1+1<=L.M);have h3:=Nat.mul_le_mul_right (L.mu v 1+1) (oM:k-j+1+1<=L.M);have h4:L.mu v 1=L.b1 v:=if_pos rfl;rw[h4]at h3 ⊢;omega
   ·have o:=h.ek k oM oM;have Z:L.U k=U:=by unfold nu.U;omega
    rw[Z]at o;have m:=Nat.mul_le_mul_right (U*L.d) (oM:k-j+1+1<=k);have h3:=Nat.mul_le_mul_right (L.mu v U+1) (oM:k-j+1+1<=k);omega
  have r5:=f3.lo;have ag:∀w,w<v->r.deg w<=L.E:=λw W=>by have:=f3.low hv w W;have:=a6.1;omega
  have a5:In L.br r:=f4.mono a6.2;obtain⟨g,c1,c2,c3,c4⟩:=DT h (Nat.le_refl _) hX r5 ag a5;obtain⟨c5,c6⟩:=c4 b;obtain⟨F,C,a1,R⟩:=jh c2 b;have i:=cZ a1;have X:F.lo (v+1):=qj R i C r5;have aw:g.deg v=0:=uf c2.f R;have b6:F.deg v=r.deg v:=by rw[C,deg_mul R i,aw];omega
  have bb:2<=j:=oM;have O:2<=L.U j/\L.U j<=2*L.M:=by unfold nu.U;omega
  have av:((L.U j:Nat):Int)+2*y.deg v=2*(L.M:Int)+2:=by rw[hj];unfold nu.U;omega
  obtain⟨s1,s2,s3,s4⟩:=h.sg (L.U j) oM O.1;have ab:(y.lc v)^s'*x=t*y+g*F:=by rw[<-C];exact K
  obtain⟨m1,m2⟩:=Ad hv hS y0 H S R c2.f ab oM i a1 X p0 q0 lp lq hp hq ip iq hm hn hyp hyq oM s1 s2 rfl s3 s4;have b3:L.l2 (L.U j)+L.b1 v+L.xi (L.U j)+L.kap (L.U j)=L.mu v (L.U j):=by rw[nu.mu,if_neg oM]
  rw[b3]at m2;have b5:L.mu v (L.U j)<=L.mu v (2*L.M):=yj h oM O.2 (Nat.le_refl _)
  have ad:In (L.br+L.mu v (L.U j)) F:=by
   have e1:hd r=hd F:=by rw[C,GV R i,c3 R,Rat.one_mul]
   have m:=(a5.hd b).mul m2;rwa[e1,<-qZ i]at m
  have b9:=h8.x1;have an:bx (dN v L.E L.M)<=10000:=sU hv (by have:=h.dE.2.2.1;omega) (Nat.le_refl _) h.bP;have nQ:Dg (dN v L.E L.M) r:=sK r5 ag oM;have b0:PH G r.l v (nrm F).l:=G6 b c1 (C.trans (jF g F)) nQ ad c6 an oM hv;have ac:nrm F≠0:=RV i;obtain⟨Y,a4⟩:=fF i
  have D:∀w,(nrm F).deg w=F.deg w:=λw=>by have o:=dvd_deg i Y w;have m:=dvd_deg ac a4 w;omega
  have aE:=vF i
  have aq:Sq v p q y (nrm F):=by refine hS.step y0 H S (e:=g*c (hd F)) (mul_ne R (wF aE)) (vK c2.f (nX _ v)) (t:=t) ?_ (by rw[D];omega);rw[ab];have o:g*c (hd F)*nrm F=g*(c (hd F)*nrm F):=gR;rw[o,<-qZ i]
  obtain⟨s,ap,ay,J⟩:=NW h h8 hX hN p0 q0 lp lq hp hq ip iq hm hn n y (nrm F) (L.U j) (by rw[D];omega) aq py (jY a1 Y) ly (LP X)
   (λw W=>by
    have o:=dy w W;have m:U*L.d<=L.U j*L.d:=Nat.mul_le_mul_right _ (by rcases hUc with e|⟨e,_⟩<;>omega)
    omega)
   (λw W=>by rw[D];exact m1 w W) (iy.mono (yj h hU1 (by rcases hUc with e|⟨e,_⟩<;>omega) O.2)) m2 oM O.2 (.inr ⟨av,by rw[D];omega⟩) (by rw[D];omega) (by rw[D];omega) oM (by rw[D];omega) (by rw[D];omega)
  have au:g.lo v:=pQ (iw b (by rw[C];exact dvd_mul_right _ _) r5) c2.f;refine⟨s,B _ _ b0 ap,ay,I s (jY py J.l) J.l ?_,J.l,λd o m=>J.u d m (dvd_trans ?_ a4)⟩
  ·rw[C];exact dvd_mul_of' (dvd_trans J.r Y) g
  ·exact eB HG hv X (jY py m) au R (by rw[<-C];exact hrem d o m)
theorem FI{x y:List Nat}(h:y.length<=x.length):mZ x y=gY fuel x y:=by unfold mZ;rw[if_neg oM]
theorem Sl{a b:List ai}{v t:Nat}{x y:List Nat}(h:aD b v<=aD a v)(e:iV a v t=some x)(d:iV b v t=some y):y.length<=x.length:=by rw[AU e,AU d];omega
theorem zC{a b:List ai}{v:Nat}(h:aD b v<=aD a v)(ha:aD a v+1<fuel):∀l,∃m,kI a b v l=some m
 | []=>⟨_,rfl⟩
 | k::l=>by
  have d:=sH (a:=a) (b:=b) (v:=v) ha oM (k::l);rw[kI];rw[jR]at d;split
  ·rename_i x y i e;rw[i,e]at d;simp only at d;split
   ·rename_i hf;rw[if_pos hf,FI (Sl h i e)]at d;exact d
   ·exact zC h ha l
  ·exact zC h ha l
theorem wL{v:Nat}(hv:v<4){a b d:MP}(ha:a≠0)(hb:b≠0)(kL:b.deg v<=a.deg v)(j:∀m∈a.l,∀w,m.1.get w<18446744073709551616)(o:∀m∈b.l,∀w,m.1.get w<18446744073709551616)(e:d∣a)(i:d∣b) :
  ∀{l:List Nat}{m:Int},kI a.l b.l v l=some m->d.deg v<=m
 | [],m,h=>by simp only[kI,Option.some.injEq]at h;have r:=dvd_deg ha e v;have e1:a.deg v=aD a.l v:=rfl;omega
 | k::l,m,h=>by
  rw[kI]at h;split at h
  ·rename_i x y q p;split at h
   ·rename_i hf;rw[Bool.and_eq_true]at hf;rw[<-FI (Sl kL q p)]at h
    cases hs:mZ x y with
    | none=>rw[hs]at h;cases h
    | some n =>
     rw[hs]at h;have h:some ((n:Int)-1)=some m:=h;have h:=Option.some.inj h;have:=Fv hv ha hb j o e i q hf.1 p hf.2 hs;omega
   ·exact wL hv ha hb kL j o e i h
  ·exact wL hv ha hb kL j o e i h
theorem NY{v:Nat}{a b:MP}(h:0<a.deg v\/0<b.deg v)(d:a.lo (v+1))(lb:b.lo (v+1)):∀n,n<=4->v<n->wK a.l b.l n=(v:Int)
 | 0,_,h=>by omega
 | n+1,hn,hv=>by
  rw[wK];have e1:∀w,a.deg w=aD a.l w:=λ_=>rfl;have i:∀w,b.deg w=aD b.l w:=λ_=>rfl;rcases Nat.eq_or_lt_of_le (oM:v<=n)with e|hlt
  ·subst e;rw[e1,i]at h;rw[if_neg oM]
  ·have k:a.deg n<=0:=d n oM oM;have j:b.deg n<=0:=lb n oM oM;rw[e1]at k;rw[i]at j;rw[if_pos oM];exact NY h d lb n oM hlt
theorem JV{a b:MP}(d:a.lo 0)(lb:b.lo 0):∀n,n<=4->wK a.l b.l n=-1
 | 0,_=>rfl
 | n+1,hn=>by have h:a.deg n<=0:=d n oM oM;have e:b.deg n<=0:=lb n oM oM;have e1:a.deg n=aD a.l n:=rfl;have i:b.deg n=aD b.l n:=rfl;rw[wK,if_pos oM];exact JV d lb n oM
theorem NZ{v pb:Nat}{L:nu}(h:qm v L)(K:Ul v L pb){G:mE}(Z:zB (dN v L.E 0) L.bE G)(X:XL G)
  {p q:MP} (x:p.prim v) (F:q.prim v) (Y:hd q=1) (dp:Dg (dN v L.d L.M) p) (dq:Dg (dN v L.d L.M) q) (ip:In (L.b1 v) p) (O:In (L.b1 v) q) (e:q.deg v<=p.deg v) (wp:W8 p.l) (wq:W8 q.l) :
  ∃i,kI p.l q.l v [0,1,2]=some i/\∃z:MP,lC z p q/\In (L.mu v (2*L.M)) z/\(i=0/\z=1\/i≠0/\∃N,Aq G v N p.l q.l z.l):=by
 have hv:=h.hv;have I:=cZ x;have s:=cZ F;have J:=dp.top hv;have C:=dq.top hv;have a0:=h.fl;have e1:aD p.l v=p.deg v:=rfl;have e2:aD q.l v=q.deg v:=rfl;have H:L.mu v 1=L.b1 v:=if_pos rfl;have a1:L.b1 v<=L.mu v (2*L.M):=by rw[<-H];exact yj h (Nat.le_refl _) (by have:=h.dE.2.2.2;omega) (Nat.le_refl _)
 obtain⟨i,o⟩:=zC (a:=p.l) (b:=q.l) (v:=v) oM oM [0,1,2];have hex:∀p:MP,W8 p.l->∀m∈p.l,∀w,m.1.get w<18446744073709551616:=λp hp m hm w=>by have:=hp.exps m hm w;omega
 have k:∀d:MP,d∣p->d∣q->d.deg v<=i:=λd r u=>wL hv I s e (hex p wp) (hex q wq) r u o;refine⟨i,o,?_⟩;by_cases j:i=0
 ·exact⟨1,⟨unit_dvd unit_one p,unit_dvd unit_one q,λd r u=>x d (by have:=k d r u;show d.deg v<=0;omega) r⟩,In.one _,.inl ⟨j,rfl⟩⟩
 have W:=deg_pos s v;by_cases y:q.deg v<=0
 ·have n:q.unit:=F q y (dvd_refl q);have hq:q=1:=LM s n (unit_dvd unit_one q) Y uC;have D:=h.bP;have R:=h.dE;refine⟨1,wI (.inr n),In.one _,.inr ⟨j,2,?_⟩⟩;rw[hq];exact JU hv I dp ip (Nat.le_trans (Nat.mul_le_mul_left _ (Nat.pow_le_pow_left oM v)) D) (by have:=K.w1;omega) 0
 ·obtain⟨z,z1,S,z3⟩:=NW h K Z X I s dp.lo dq.lo (dp.low hv) (dq.low hv) ip O J C (L.M+3) p q 1 oM .base x F dp.lo dq.lo
   (λw B=>by have:=dp.low hv w B;omega) (λw B=>by have:=dq.low hv w B;omega) (by rw[H];exact ip) (by rw[H];exact O) (Nat.le_refl _) (by have:=h.dE.2.2.2;omega) (.inl rfl) oM e J e (Int.le_refl _)
  exact⟨z,z3,S,.inr ⟨j,_,z1⟩⟩
theorem Un{d:Nat->Nat}{b k:Nat}{p q:MP}(i:p≠0)(e:q≠0)(h:Dg d (p*q))(ip:In b p)(j:In k q)(n:bx d<=10000)(hb:b+k<7900000000):xO p.l q.l:=by
 refine sN (dp:=λw=>(p.deg w).toNat) (dq:=λw=>(q.deg w).toNat) (λw _=>?_) (λw _=>?_) (d:=d) (λw o=>?_) ip j n hb
 ·show p.deg w<=((p.deg w).toNat:Int);have:=deg_pos i w;omega
 ·show q.deg w<=((q.deg w).toNat:Int);have:=deg_pos e w;omega
 ·have m:=h w o;rw[deg_mul i e]at m;have:=deg_pos i w;have:=deg_pos e w;show(p.deg w).toNat+(q.deg w).toNat<=d w;omega
theorem UW(G:mE):XL (FE G):=λd b x e i h hb=>.inl ⟨rfl,oJ e i h hb⟩
theorem uF{g z a b:MP}(hz:z.unit)(h:lC (g*z) a b):lC g a b :=
 ⟨dvd_trans (dvd_mul_right _ _) h.l,dvd_trans (dvd_mul_right _ _) h.r,λd j i=>dvd_trans (h.u d j i) (by
  have e:g*1=g:=gR;have:=mul_dvd (dvd_refl g) hz
  rwa[e]at this)⟩
theorem JW{v pb:Nat}{L:nu}(h:qm v L)(h8:Ul v L pb){G:mE}(hX:zB (dN v L.E 0) L.bE G)(hN:XL G)(a6:zB (dN v L.E 0) L.bE (FE G)):zB (dN v L.d L.M) L.b (FE G):=λa b da D ia ib=>by
 have hv:=h.hv;have HG:=yP v oM;have W:=h.dE;have aa:=h8.x2;have k:bx (dN v L.d L.M)<=10000:=sU hv oM (Nat.le_refl _) h.bP;have av:L.b<=L.b1 v:=by unfold nu.b1;split<;>omega
 have K:L.b<7900000000:=oM;have a8:L.b<=L.bE:=by unfold nu.bE;omega
 have low0:∀p:MP,Dg (dN v L.d L.M) p->p.deg v<=0->Dg (dN v L.E 0) p:=λp dp hp=>sK dp.lo (λw hw=>by have:=dp.low hv w hw;omega) hp;by_cases ab:a.deg v<=0/\b.deg v<=0
 ·exact a6 a b (low0 a da ab.1) (low0 b D ab.2) (ia.mono a8) (ib.mono a8)
 by_cases m:a=0
 ·refine⟨nrm b,.inl ⟨zero_iff.1 m,oJ D ib k K⟩,?_,λC=>nk λh0=>C (by rw[h0,jJ])⟩;by_cases hb:b=0
  ·rw[hb,jJ,m];exact⟨dvd_refl _,dvd_refl _,λd h _=>h⟩
  ·exact⟨by rw[m];exact dvd_zero _,(fF hb).1,λd _ h=>dvd_trans h (fF hb).2⟩
 have na:a.l≠[]:=λe=>m (zero_iff.2 e);by_cases b0:b=0
 ·exact⟨nrm a,.inr (.inl ⟨na,zero_iff.1 b0,oJ da ia k K⟩),⟨(fF m).1,by rw[b0];exact dvd_zero _,λd h _=>dvd_trans h (fF m).2⟩,λ_=>nk m⟩
 have nb:b.l≠[]:=λe=>b0 (zero_iff.2 e);have wa:=mg da ia k K;have wb:=mg D ib k K;have a7:wK a.l b.l 4=(v:Int):=NY oM da.lo D.lo 4 oM hv;have S:∀p:MP,Dg (dN v L.d L.M) p->∀w,w<v->p.deg w<=L.E:=λp dp w hw=>by have:=dp.low hv w hw;omega
 obtain⟨x,x1,x2,x3,x4⟩:=DT h W.2.1 hX da.lo (S a da) ia;obtain⟨y,y1,y2,y3,y4⟩:=DT h W.2.1 hX D.lo (S b D) ib;obtain⟨x5,x6⟩:=x4 m;obtain⟨y5,y6⟩:=y4 b0;have J:L.cz v L.b<=L.bE:=NI W.2.1;obtain⟨g,ao,hg⟩:=hX x y x5 y5 (x6.mono J) (y6.mono J);obtain⟨p,X,pp,x0⟩:=jh x2 m;obtain⟨q,eq,pq,y0⟩:=jh y2 b0;have p0:=cZ pp;have q0:=cZ pq
 have ac:∀z:MP,v=0->hd z=1->Dg (dN v L.E 0) z->z=1:=λz e j o=>by
  subst e;obtain⟨r,rfl⟩:=jX o.lo0;have hr:r≠0:=λe=>by rw[e,BZ]at j;cases j
  have a2:=sI hr 1;have aq:c r*1=c r:=gR;rw[aq,j,uC,Rat.one_mul]at a2;rw[<-a2,zR]
 have ip:=uY h m da.lo da ia X (x3 x0) (λe=>ac x e (x3 x0) x5);have iq:=uY h b0 D.lo D ib eq (y3 y0) (λe=>ac y e (y3 y0) y5);have ap:PH G a.l v (nrm p).l:=G6 m x1 (X.trans (jF x p)) da ip x6 k aa hv;have al:PH G b.l v (nrm q).l:=G6 b0 y1 (eq.trans (jF y q)) D iq y6 k aa hv;obtain⟨Z,ag⟩:=fF p0;obtain⟨R,ad⟩:=fF q0;have dp:Dg (dN v L.d L.M) (nrm p):=(da.dvd m ⟨x,X.trans (jF x p)⟩).dvd p0 Z;have dq:Dg (dN v L.d L.M) (nrm q):=(D.dvd b0 ⟨y,eq.trans (jF y q)⟩).dvd q0 R;have wp:=mg dp ip.nrm k oM;have wq:=mg dq iq.nrm k oM;have a1:=jY pp Z;have Y:=jY pq R
 -- in either order
 have a3:∃(s t:MP)(F:Int)(z:MP),(aD (nrm p).l v<aD (nrm q).l v/\s=nrm q/\t=nrm p\/¬aD (nrm p).l v<aD (nrm q).l v/\s=nrm p/\t=nrm q)/\kI s.l t.l v [0,1,2]=some F/\lC z (nrm p) (nrm q)/\In (L.mu v (2*L.M)) z/\(F=0/\z=1\/F≠0/\∃N,Aq G v N s.l t.l z.l):=by
  rcases Int.lt_or_le ((nrm p).deg v) ((nrm q).deg v)with hlt|kL
  ·obtain⟨F,j,z,o,h3,h4⟩:=NZ h h8 hX hN Y a1 (nk p0) dq dp iq.nrm ip.nrm oM wq wp;exact⟨_,_,F,z,.inl ⟨hlt,rfl,rfl⟩,j,Dy o,h3,h4⟩
  ·obtain⟨F,j,z,o,h3,h4⟩:=NZ h h8 hX hN a1 Y (nk q0) dp dq ip.nrm iq.nrm kL wp wq;exact⟨_,_,F,z,.inr ⟨Int.not_lt.2 kL,rfl,rfl⟩,j,o,h3,h4⟩
 obtain⟨s,t,F,z,s1,s2,s3,s4,s5⟩:=a3;have I:lC z p q:=⟨dvd_trans s3.l Z,dvd_trans s3.r R,λd j o=>s3.u d (dvd_trans j ag) (dvd_trans o ad)⟩;have lp:=qj x0 p0 X da.lo;have lq:=qj y0 q0 eq D.lo;have lx:x.lo v:=pQ (iw m (by rw[X];exact dvd_mul_right _ _) da.lo) x2.f;have ly:y.lo v:=pQ (iw b0 (by rw[eq];exact dvd_mul_right _ _) D.lo) y2.f
 have B:lC (g*z) a b:=by
  refine⟨by rw[X];exact mul_dvd hg.i.l I.l,by rw[eq];exact mul_dvd hg.i.r I.r,λd j o=>?_⟩;have d0:=dvd_ne m j;obtain⟨e,u,rfl,he,au,a4,lz,_⟩:=jZ HG hv (iw m j da.lo) d0;have a5:e.fr v:=he v (Nat.le_refl _) hv;refine mul_dvd (hg.i.u e ?_ ?_) (I.u u ?_ ?_)
  ·exact x2.u e a5 (dvd_trans (dvd_mul_right _ _) j)
  ·exact y2.u e a5 (dvd_trans (dvd_mul_right _ _) o)
  ·exact eB HG hv lp a4 lx x0 (by rw[<-X];exact dvd_trans (dvd_mul_left _ _) j)
  ·exact eB HG hv lq a4 ly y0 (by rw[<-eq];exact dvd_trans (dvd_mul_left _ _) o)
 have C:=JD B m;have g0:=dvd_ne x0 hg.i.l;have z0:z≠0:=λe=>C (by rw[e];grind);have ar:L.cz v L.b<=L.bE:=J
 have ig:In L.bE g:=by obtain⟨j,o⟩:=zz h da.lo (S a da) ia (a.deg v).toNat;have h3:g∣a.lc v:=dvd_trans hg.i.l ((dvd_iff_co x2.f a).1 x2.d _);exact(rf h (hg.n g0) (lc_ne m v) h3 j o).2.mono J
 have O:=h8.fin;have H:Dg (dN v L.d L.M) (g*z):=da.dvd m B.l;have dg:Dg (dN v L.d L.M) g:=H.dvd C (dvd_mul_right _ _);have dz:Dg (dN v L.d L.M) z:=H.dvd C (dvd_mul_left _ _);have wz:=mg dz s4 k oM;have a9:nP g.l (nrm g).l:=oJ dg ig k oM
 have key:∃r:MP,NG r a b/\(F=0/\nP g.l r.l\/F≠0/\∃(N:Nat)(z:List ai),Aq G v N s.l t.l z/\z.length<=100000000/\(aD z v<1/\nP g.l r.l\/¬aD z v<1/\xO g.l z/\nP (aX g.l z) r.l)):=by
  rcases s5 with ⟨j,o⟩|⟨j,N,o⟩
  ·exact⟨nrm g,⟨uW (uF (by rw[o];exact unit_one) B) g0,λ_=>nk g0⟩,.inl ⟨j,a9⟩⟩
  ·by_cases hz:z.deg v<1
   ·have an:z.unit:=pp z (by show z.deg v<=0;omega) I.l;exact⟨nrm g,⟨uW (uF an B) g0,λ_=>nk g0⟩,.inr ⟨j,N,z.l,o,wz.w.len,.inl ⟨hz,a9⟩⟩⟩
   ·exact⟨nrm (g*z),⟨uW B C,λ_=>nk C⟩,.inr ⟨j,N,z.l,o,wz.w.len,.inr ⟨hz,Un g0 z0 H ig s4 k O,oJ H (ig.mul s4) k O⟩⟩⟩
 obtain⟨r,hr,hk⟩:=key;refine⟨r,.inr (.inr ⟨na,nb,wa,wb,.inr ⟨v,x.l,y.l,g.l,(nrm p).l,(nrm q).l,s.l,t.l,F,hv,a7,x1,y1,ao,ap,al,wp,wq,λe=>cZ a1 (zero_iff.2 e),λe=>cZ Y (zero_iff.2 e),?_,s2,hk⟩⟩),hr⟩;rcases s1 with ⟨j,rfl,rfl⟩|⟨j,rfl,rfl⟩
 ·exact .inl ⟨j,rfl,rfl⟩
 ·exact .inr ⟨j,rfl,rfl⟩
theorem zB.mono{d d':Nat->Nat}{b e:Nat}{G:mE}(h:zB d b G)(hd:∀w,d' w<=d w)(hb:e<=b):zB d' e G:=λx y j k l i=>h x y (j.mono hd) (k.mono hd) (l.mono hb) (i.mono hb)
theorem FJ{b:Nat}(hb:b<7900000000){d:Nat->Nat}(hd:∀w,w<4->d w=0)(G:mE):zB d b (FE G):=λx y k m r o=>by
 have i:bx d<=10000:=by unfold bx;rw[hd 0,hd 1,hd 2,hd 3]<;>omega
 have lo:∀z:MP,Dg d z->z.lo 0:=λz dz w _ p=>by have:=dz w p;rw[hd w p]at this;exact this
 by_cases j:x=0
 ·refine⟨nrm y,.inl ⟨zero_iff.1 j,oJ m o i hb⟩,?_,λn=>nk λu=>n (by rw[u,jJ])⟩;by_cases hb:y=0
  ·rw[hb,jJ,j];exact⟨dvd_refl _,dvd_refl _,λd h _=>h⟩
  ·exact⟨by rw[j];exact dvd_zero _,(fF hb).1,λd _ h=>dvd_trans h (fF hb).2⟩
 have q:x.l≠[]:=λe=>j (zero_iff.2 e);by_cases b0:y=0
 ·exact⟨nrm x,.inr (.inl ⟨q,zero_iff.1 b0,oJ k r i hb⟩),⟨(fF j).1,by rw[b0];exact dvd_zero _,λd h _=>dvd_trans h (fF j).2⟩,λ_=>nk j⟩
 have C:y.l≠[]:=λe=>b0 (zero_iff.2 e);obtain⟨s,es⟩:=jX (lo x k);have B:s≠0:=λe=>j (by rw[es,e,BZ]);refine⟨1,.inr (.inr ⟨q,C,mg k r i hb,mg m o i hb,.inl ⟨by rw[JV (lo x k) (lo y m) 4 oM];omega,sJ.symm⟩⟩),wI (.inl (by rw[es];exact yO B)),λ_=>uC⟩
theorem DU{L:Nat->nu}{pb:Nat->Nat}:∀(v:Nat),X8 L v->(∀w,w<=v->Ul w (L w) (pb w))->∀n,zB (dN v (L v).d (L v).M) (L v).b (sS (n+v+2))
 | 0,h,h8,n=>by
  have o:qm 0 (L 0):=h;have hz:∀w,w<4->dN 0 (L 0).E 0 w=0:=λw _=>by unfold dN;rw[if_neg oM];split<;>rfl
  have hb:(L 0).bE<7900000000:=by have:=(h8 0 (Nat.le_refl _)).fin;omega
  exact JW o (h8 0 (Nat.le_refl _)) (FJ hb hz (sS n)) (UW _) (FJ hb hz (sS (n+1)))
 | v+1,h,h8,n=>by
  obtain⟨s,m,q,j,k⟩:=h
  have hd:∀w,dN (v+1) (L (v+1)).E 0 w<=dN v (L v).d (L v).M w:=λw=>by
   unfold dN;by_cases e:w<v
   ·rw[if_pos oM,if_pos e];exact m
   ·by_cases i:w=v
    ·rw[if_pos oM,if_neg e,if_pos i];exact q
    ·rw[if_neg oM,if_neg e,if_neg i];split<;>exact Nat.le_refl _
  have g1:=(DU v k (λw r=>h8 w oM) n).mono hd j;have l:=(DU v k (λw r=>h8 w oM) (n+1)).mono hd j;have e1:n+(v+1)+2=(n+v+2)+1:=oM;have u:n+1+v+2=(n+v+2)+1:=oM;rw[u]at l;rw[e1];have p:n+v+2=(n+v+1)+1:=oM;exact JW s (h8 (v+1) (Nat.le_refl _)) g1 (by rw[p];exact UW _) l
def XN (v:Nat) (L:nu) (pb:Nat):Bool :=
 decide ((L.M+1)*(L.b1 v+1)<=pb)&&decide (∀k,k<L.M+1->2<=k->(k+1)*(L.mu v (L.U k)+1)<=pb)&&decide (pb+(if v=0 then 0 else pb)<7900000000)&&decide (L.br+L.mu v (2*L.M)+L.cz v L.br<7900000000)&&decide (L.b1 v+L.cz v L.b<7900000000)&&decide (L.bE+L.mu v (2*L.M)<7900000000)&&decide (L.mu v (2*L.M)+(L.M+1)<7900000000)
theorem G7{v pb:Nat}{L:nu}(h:XN v L pb=true):Ul v L pb:=by simp only[XN,Bool.and_eq_true,decide_eq_true_eq]at h;obtain⟨⟨⟨⟨⟨⟨e,d⟩,k⟩,b⟩,i⟩,j⟩,l⟩:=h;exact⟨e,d,k,b,i,j,l⟩
def Yb:Nat->Nat
 | 0=>7200000000
 | _=>1000000
theorem YT:∀w,w<=2->Ul w (L8 w) (Yb w):=λw h=>by
 have b:Ul 0 (L8 0) (Yb 0):=G7 dK;have d:Ul 1 (L8 1) (Yb 1):=G7 dK;have e:Ul 2 (L8 2) (Yb 2):=G7 dK;rcases w with _|_|_|w
 ·exact b
 ·exact d
 ·exact e
 ·omega
theorem UX:zB D8 90 (sS 6):=DU 2 UQ YT 2
def YU (v:Nat) (e:Ex):Ex:=(e.put v (e.get 3)).put 3 (e.get v)
def YY (v:Nat) (x:Pt):Pt:=(x.put v (x.get 3)).put 3 (x.get v)
def sw (v:Nat) (p:MP):MP:=⟨canon (p.l.map λt=>(YU v t.1,t.2)),fA _⟩
theorem NC.eqq{v:Nat}{g h a:MP}(hg:NC v g a)(i:NC v h a):g=h:=by
 have k:=i.1.u g hg.1.f hg.1.d;have j:=hg.1.u h i.1.f i.1.d;by_cases b:g=0
 ·rw[b]at k ⊢;exact(zero_dvd k).symm
 ·have l:h≠0:=λe=>b (by rw[e]at j;exact zero_dvd j);exact LM b k j (hg.2 b) (i.2 l)
def XO (H:Nat) (l:List ai):Prop:=∃f:MP,f.l=l/\Dg D8 f/\In 90 f/\(f=0\/∃F:MP,F≠0/\f∣F/\Dq H F)
theorem JX{H:Nat}(o:H<=225):∀(l:List (List ai))(b:MP),(∀c∈l,XO H c)->(b=0\/(hd b=1/\∃F:MP,F≠0/\b∣F/\Dq H F))->∃r,ut (wm 6) b.l l=some r
 | [],b,_,_=>⟨_,rfl⟩
 | c::l,b,hl,ha=>by
  obtain⟨f,rfl,q,hf,s⟩:=hl c sM
  have d:Dg D8 b/\In 90 b:=by
   rcases ha with e|⟨p,F,k,h,j⟩
   ·rw[e];exact NQ
   ·exact Sc j o k h p
  obtain⟨g,x,hg⟩:=Wi d.1 q d.2 hf;rw[ut,x];simp only;split
  ·exact⟨_,rfl⟩
  ·refine JX o l g (λc hc=>hl c (by simp[hc])) ?_;by_cases m:g=0
   ·exact .inl m
   ·refine .inr ⟨hg.n m,?_⟩;rcases s with f0|⟨F,k,h,j⟩
    ·rcases ha with e|⟨-,F,k,h,j⟩
     ·exact absurd (zero_dvd (hg.i.u 0 (by rw[e];exact dvd_refl 0) (by rw[f0];exact dvd_refl 0))) m
     ·exact⟨F,k,dvd_trans hg.i.l h,j⟩
    ·exact⟨F,k,dvd_trans hg.i.r h,j⟩
theorem XP{d:Nat->Nat}{p:MP}(h:Dg d p){v:Nat}(hv:v<4)(n:Nat):Dg d (p.co v n):=λw b=>qO v n p b hv (h w b)
theorem Dq.co{H:Nat}{p:MP}(h:Dq H p){v:Nat}(hv:v<4)(n:Nat):Dq H (p.co v n):=⟨XP h.d hv n,h.i.co v n⟩
theorem XQ{H:Nat}(d:H<=225){a:MP}{v:Nat}(b:∀n,XO H (a.co v n).l):∃g:MP,mD (wm 6) a.l v=some g.l/\NC v g a:=by
 obtain⟨r,b⟩:=JX d (aA a.l v) 0 (λc hc=>by
  obtain⟨n,e⟩:=eu hc
  rw[e];exact b n) (.inl rfl)
 obtain⟨g,rfl,hg,h⟩:=qi (yl 6) (a:=a) (v:=v) b;exact⟨g,b,hg,h⟩
theorem Dq.rw{H:Nat}(e:H<=225){a:MP}(h:Dq H a){v:Nat}(hv:v<4)(n:Nat):XO H (a.co v n).l:=by
 refine⟨a.co v n,rfl,(h.co hv n).d,(h.co hv n).in90 e,?_⟩;by_cases b:a.co v n=0
 ·exact .inl b
 ·exact .inr ⟨_,b,dvd_refl _,h.co hv n⟩
theorem Uo{v:Nat}{g:MP}(h:NC v g 0):g=0:=zero_dvd (h.1.u 0 (oC v) (dvd_refl 0))
theorem FK{H:Nat}(y:H<=225):∀(l:List (List ai))(b:MP),(∀c∈l,XO H c)->(b=0\/(hd b=1/\∃F:MP,F≠0/\b∣F/\Dq H F)) ->
  ∃g:MP,mF (sS 6) l b.l g.l/\g∣b/\(∀f:MP,f.l∈l->g∣f)/\(∀d,d∣b->(∀f:MP,f.l∈l->d∣f)->d∣g)/\(g≠0->hd g=1)
 | [],b,_,ha=>⟨b,rfl,dvd_refl _,λf hf=>(by cases hf),λd h _=>h,λJ=>ha.elim (λe=>absurd e J) λe=>e.1⟩
 | c::l,b,hl,ha=>by
  obtain⟨f,rfl,E,hf,G⟩:=hl c sM
  have m:Dg D8 b/\In 90 b:=by
   rcases ha with e|⟨x,F,p,j,q⟩
   ·rw[e];exact NQ
   ·exact Sc q y p j x
  obtain⟨g,I,hg⟩:=UX b f m.1 E m.2 hf
  obtain⟨k,e,z,D,B,C⟩:=FK y l g (λc hc=>hl c (by simp[hc])) (by
   by_cases s:g=0
   ·exact .inl s
   ·refine .inr ⟨hg.n s,?_⟩;rcases G with f0|⟨F,p,j,q⟩
    ·rcases ha with e|⟨-,F,p,j,q⟩
     ·exact absurd (zero_dvd (hg.i.u 0 (by rw[e];exact dvd_refl 0) (by rw[f0];exact dvd_refl 0))) s
     ·exact⟨F,p,dvd_trans hg.i.l j,q⟩
    ·exact⟨F,p,dvd_trans hg.i.r j,q⟩)
  refine⟨k,⟨g.l,I,e⟩,dvd_trans z hg.i.l,λK o=>?_,λd x j=>B d (hg.i.u d x (j f sM)) λf hf=>j f (by simp[hf]),C⟩;rcases List.mem_cons.1 o with e|o
  ·rw[MP.eq_of e];exact dvd_trans z hg.i.r
  ·exact D K o
theorem Wo{H:Nat}(j:H<=225){a:MP}{v:Nat}(b:∀n,XO H (a.co v n).l):∃g:MP,mF (sS 6) (aA a.l v) [] g.l/\NC v g a:=by
 obtain⟨g,b,-,d,i,h⟩:=FK j (aA a.l v) 0 (λc hc=>by
  obtain⟨n,e⟩:=eu hc
  rw[e];exact b n) (.inl rfl)
 exact⟨g,b,NU d i,h⟩
theorem Sm{v:Nat}{G:mE}{a g q:MP}{d:Nat->Nat}{b k:Nat}(n:a≠0)(hc:mF G (aA a.l v) [] g.l)(e:a=q*g)
  (ha:Dg d a) (r:In b q) (x:In k g) (u:bx d<=10000) (hb:b+k<7900000000):NR G a.l v q.l:=by
 have j:q≠0:=λh=>n (by rw[e,h];grind);have i:g≠0:=λh=>n (by rw[e,h];grind)
 have s:∀w,w<4->(q.deg w).toNat+(g.deg w).toNat<=d w:=λw y=>by have m:=ha w y;rw[e,deg_mul j i]at m;have:=deg_pos j w;have:=deg_pos i w;omega
 obtain⟨t,l,o⟩:=je i;obtain⟨m,p⟩:=NT o (dq:=λw=>(q.deg w).toNat) (dz:=λw=>(g.deg w).toNat) (λw _=>by show q.deg w<=((q.deg w).toNat:Int);have:=deg_pos j w;omega) (λw _=>by show g.deg w<=((g.deg w).toNat:Int);have:=deg_pos i w;omega) s r x u hb;exact .inr ⟨λh=>n (zero_iff.2 h),t,l,q.l.length,by rw[<-o];exact hc,m,by rw[e];exact p⟩
theorem Ps{a b:MP}(e:Dq 225 a)(q:Dq 225 b){v:Nat}(hv:v<4):∃n g k p:MP,∃x u I:Nat,
  (jQ a.l=some n.l/\nP a.l n.l/\Pk (JK x) n.l)/\(An a b g/\sS 6 a.l b.l g.l/\Pk (JK u) g.l) /\
  (mD (wm 6) a.l v=some k.l/\mF (sS 6) (aA a.l v) [] k.l/\Pk (JK I) k.l)/\(kT (wm 6) a.l v=some p.l/\NR (sS 6) a.l v p.l/\Pk (JK 1) p.l):=by
 have o:=e.in90 (Nat.le_refl _);have J:=q.in90 (Nat.le_refl _);have m:bx D8<=10000:=by rw[XE];omega
 obtain⟨g,eg,hg⟩:=Wi e.d q.d o J;obtain⟨s,F,C⟩:=UX a b e.d q.d o J;obtain rfl:=C.eq2 hg;obtain⟨u,-,-,R⟩:=XF e q (Nat.le_refl _) hg;have wa:=X9 e.d o
 have W:∃z,Pk (JK z) (nrm a).l:=by
  by_cases i:a=0
  ·rw[i,jJ];exact⟨1,AY⟩
  ·obtain⟨z,-,-,h⟩:=NP e (Nat.le_refl _) i (fF i).1 (nk i);exact⟨z,h⟩
 obtain⟨x,X⟩:=W;have L:jQ a.l=some (nrm a).l/\nP a.l (nrm a).l/\Pk (JK x) (nrm a).l:=⟨XG e.d o,oJ e.d o m oM,X⟩;have M:An a b s/\sS 6 a.l b.l s.l/\Pk (JK u) s.l:=⟨XH e.d q.d o J hg,F,R⟩;obtain⟨k,e1,j⟩:=XQ (a:=a) (v:=v) (Nat.le_refl 225) λn=>e.rw (Nat.le_refl _) hv n;obtain⟨k',G,H⟩:=Wo (a:=a) (v:=v) (Nat.le_refl 225) λn=>e.rw (Nat.le_refl _) hv n;obtain rfl:=H.eqq j;by_cases i:a=0
 ·have D:k'=0:=by rw[i]at j;exact Uo j
  refine⟨nrm a,s,k',0,x,u,1,L,M,⟨e1,G,by rw[D];exact AY⟩,by rw[i];rfl,.inl ⟨zero_iff.1 i,rfl⟩,AY⟩
 ·have k0:=dvd_ne i j.1.d;have K:=(dvd_iff_co j.1.f a).1 j.1.d (a.deg v).toNat;obtain⟨Z,N⟩:=Sc (e.co hv _) (Nat.le_refl _) (lc_ne i v) K (j.2 k0);obtain⟨I,-,-,S⟩:=NP (e.co hv _) (Nat.le_refl _) (lc_ne i v) K (j.2 k0);obtain⟨p,B,Y,-⟩:=jh j.1 i;obtain⟨z,z1,O,-,ip⟩:=Mc e i B (j.2 k0);have hz:=Nat.mul_le_mul_right (2^72*225) O;have dp:Dg D8 p:=e.d.dvd i ⟨k',B.trans (jF k' p)⟩;have r:In 90 p:=⟨1,_,oM,Nat.one_le_two_pow,Nat.le_trans hz dK,ip⟩;have y:=yg k0 (B.trans (jF k' p)) e.d m r N (by rw[CK];omega)
  have E:kT (wm 6) a.l v=some p.l:=by obtain⟨t,l,el⟩:=je i;rw[el]at y e1 ⊢;rw[kT];simp only[e1];exact y
  exact⟨nrm a,s,k',p,x,u,I,L,M,⟨e1,G,S⟩,E,Sm i G (B.trans (jF k' p)) e.d r N m oM,p.v,Sb ip oM dp (Nat.le_trans hz dK),Md oM oM⟩
end Q
end
