/- Where it answers, the program's greatest common divisor is the normal greatest common divisor. No program in sight. -/
import Derived.Test.YtopclbeomcggiaaGreatZ34
set_option linter.unusedVariables false
set_option linter.unusedSimpArgs false
set_option maxHeartbeats 16000000
set_option maxRecDepth 100000
section
namespace Q
open MP Go.Proofs.YtopclbeomcggiaaGreat
structure NG (g a b:MP):Prop where
 i:ry g a b
 n:g≠0->hd g=1
theorem rH:qd=(1:MP).l:=by show [(e0,(1:Rat))]=cK ((1:Nat):Rat);rw[show((1:Nat):Rat)=1 from rfl,cK,if_neg dM]
theorem gX(a b:MP):a*b=b*a:=gR
theorem Az:hd 1=1:=by unfold hd;rw[<-rH];rfl
theorem NV{a b:MP}(h:a.unit\/b.unit):ry 1 a b :=
 ⟨unit_dvd unit_one a,unit_dvd unit_one b,λd e i=>h.elim (λh=>unit_of_dvd e h) λh=>unit_of_dvd i h⟩
theorem GV{g a b:MP}(h:ry g a b)(i:g≠0):ry (nrm g) a b:=by obtain⟨e,j⟩:=iD i;exact⟨dvd_trans e h.l,dvd_trans e h.r,λd x y=>dvd_trans (h.u d x y) j⟩
theorem I5{g:MP}(h:g≠0):nrm g≠0:=dvd_ne h (iD h).1
theorem UI{g a b:MP}(h:ry g a b)(d:a≠0):g≠0:=dvd_ne d h.l
theorem vN{g:MP}(h:lT g.l=true):g.unit:=by
 obtain⟨l,v⟩:=g
 cases l with
 | nil=>cases h
 | cons t l =>
  cases l with
  | cons _ _=>cases h
  | nil =>
   have he:t.1=e0:=of_decide_eq_true h
   have:(⟨[t],v⟩:MP)=c t.2:=MP.eq_of (by
    show [t]=cK t.2
    rw[cK,if_neg (v.2 t sM).1,<-he])
   rw[this];exact DK (v.2 t sM).1
def Pz (G:List ai->List ai->Option (List ai)):Prop:=∀(a b:MP)(r:List ai),G a.l b.l=some r->∃g:MP,r=g.l/\NG g a b
theorem PD{G:List ai->List ai->Option (List ai)}(q:Pz G):∀(L:List (List ai))(b:MP)(r:List ai),BS L->(b≠0->hd b=1)->vF G b.l L=some r ->
  ∃g:MP,r=g.l/\g∣b/\(∀(f:MP),f.l∈L->g∣f)/\(∀d,d∣b->(∀f:MP,f.l∈L->d∣f)->d∣g)/\(g≠0->hd g=1)
 | [],b,r,_,hn,h=>by simp only[vF,sJ]at h;exact⟨b,h.symm,dvd_refl _,λf hf=>(by cases hf),λd h _=>h,hn⟩
 | a::L,b,r,hv,hn,h=>by
  rw[vF]at h;have ha:aY a:=hv a sM;split at h
  ·cases h
  ·rename_i x p;obtain⟨g,rfl,hg⟩:=q b ⟨a,ha⟩ x p;have o:∀f:MP,f.l=a->f=⟨a,ha⟩:=λf e=>MP.eq_of e;split at h
   ·rename_i hc;simp only[sJ]at h;have hu:=vN hc;refine⟨g,h.symm,hg.i.l,λf _=>unit_dvd hu f,λd m j=>hg.i.u d m (j ⟨a,ha⟩ sM),hg.n⟩
   ·obtain⟨k,e,s,y,z,B⟩:=PD q L g r (λc hc=>hv c (by simp[hc])) hg.n h;refine⟨k,e,dvd_trans s hg.i.l,λf hf=>?_,λd m j=>z d (hg.i.u d m (j ⟨a,ha⟩ sM)) λf hf=>j f (by simp[hf]),B⟩;rcases List.mem_cons.1 hf with e|hf
    ·rw[o f e];exact dvd_trans s hg.i.r
    ·exact y f hf
theorem qQ{G:List ai->List ai->Option (List ai)}(q:Pz G){a:MP}{v:Nat}{r:List ai}(h:lI G a.l v=some r):∃g:MP,r=g.l/\mX v g a/\(g≠0->hd g=1):=by
 obtain⟨g,e,s,m,k,o⟩:=PD q _ (0:MP) r (xO a.v v) (λh=>absurd rfl h) h
 have b:∀n,g∣a.co v n:=λn=>by
  rcases Nat.lt_or_ge n (aH a.l v+1).toNat with i|i
  ·refine m _ ?_;show aG a.l v n∈aB a.l v;exact List.mem_map.2 ⟨n,List.mem_range.2 i,rfl⟩
  ·rw[co_above (by have e:a.deg v=aH a.l v:=rfl;have:=deg_ge v a;omega)];exact dvd_zero g
 have hf:g.fr v:=by
  by_cases ha:a=0
  ·have:g=0:=by
    have p:=k 0 (dvd_refl 0) λf hf=>by rw[ha]at hf;cases hf
    exact zero_dvd p
   rw[this];exact rz v
  ·exact tV (lc_ne ha v) (b _) (lc_fr v a)
 refine⟨g,e,⟨hf,(dvd_iff_co hf a).2 b,λd hd j=>k d (dvd_zero d) λf hf=>?_⟩,o⟩;obtain⟨n,i⟩:=gQ hf;have:f=a.co v n:=MP.eq_of i;rw[this];exact(dvd_iff_co hd a).1 j n
theorem UJ{G:List ai->List ai->Option (List ai)}(j:Pz G){a:MP}{v:Nat}{r:List ai}(d:a≠0)(h:lJ G a.l v=some r):∃c q:MP,r=q.l/\a=c*q/\c≠0/\c.fr v/\q.prim v:=by
 obtain⟨t,l,i⟩:=jR d;unfold lJ at h;rw[i]at h;simp only at h;rw[<-i]at h;split at h
 ·cases h
 ·rename_i c0 hc;obtain⟨g,rfl,hg,_⟩:=qQ j hc;obtain⟨q,e,hq,b⟩:=jE hg d;exact⟨g,q,EL (q:=q) b (e.trans (gX g q)) h,e,b,hg.f,hq⟩
theorem AA{v:Nat}(hv:v<4){b:MP}(hb:b.lo (v+1)):∀s:Nat,((b.lc v)^s).lo v
 | 0=>by have e:(b.lc v)^0=1:=gR;rw[e];exact DF v
 | s+1=>by have e:(b.lc v)^(s+1)=(b.lc v)^s*b.lc v:=gR;rw[e];exact lN (AA hv hb s) (Ba hv hb)
theorem I6{b:MP}(hb:b≠0):∀s:Nat,b^s≠0
 | 0=>by have e:b^0=1:=gR;rw[e];exact one_ne
 | s+1=>by have e:b^(s+1)=b^s*b:=gR;rw[e];exact mul_ne (I6 hb s) hb
theorem zi{n:Nat}{a b c:MP}(hb:b≠0)(hc:c≠0)(e:a=b*c)(h:a.lo n):c.lo n:=jW (by rw[e];exact mul_ne hb hc) (by rw[e];exact dvd_mul_left _ _) h
theorem UK{n:Nat}{a:MP}(h:a.lo n):(nrm a).lo n:=by
 by_cases b:a=0
 ·rw[b,nA];exact OJ n
 ·exact jW b (iD b).1 h
theorem WL{v:Nat}(hv:v<4){a b q:MP}{s:Nat}(e:(b.lc v)^s*a=q*b+nu v a b)(y:b≠0)(ha:a.lo (v+1))(hb:b.lo (v+1)):(nu v a b).lo (v+1):=λw m k=>by
 -- the pseudo-remainder is made of the coefficients by ring operations
 have r:∀L:List (List ai),(∀c∈L,∀t∈c,t.1.get w=0)->∀D:List (List ai),(∀c∈D,∀t∈c,t.1.get w=0)->∀f,∀c∈gL D f L,∀t∈c,t.1.get w=0:=λL hL D x f=>EK (v:=w) x f L hL
 have j:∀p:MP,p.lo (v+1)->∀c∈aB p.l v,∀t∈c,t.1.get w=0:=λp hp c hc t d=>by obtain⟨n,rfl⟩:=gQ hc;obtain⟨u,hu,rfl⟩:=List.mem_map.1 d;show(u.1.put v 0).get w=0;rw[Ex.get_put_ne _ hv k oM];exact fr_get (hp w m k) (List.mem_filter.1 hu).1
 have o:=r _ (j a ha) _ (j b hb) (aB a.l v).length;refine Si ?_
 have hL:∀(L:List (List ai))(i:Nat),(∀c∈L,∀t∈c,t.1.get w=0)->∀t∈fromL v i L,t.1.get w=0:=λL=>by
  induction L with
  | nil=>intro i _ t d;cases d
  | cons c L z =>
   intro i h t d;simp only[fromL,List.mem_append]at d;rcases d with d|d
   ·obtain⟨u,hu,rfl⟩:=List.mem_map.1 d;show(u.1.put v _).get w=0;rw[Ex.get_put_ne _ hv k oM];exact h c sM u hu
   ·exact z (i+1) (λc hc=>h c (by simp[hc])) t (by simpa using d)
 exact gY (P:=λe=>e.get w=0) (hL _ 0 o)
theorem LG{G:List ai->List ai->Option (List ai)}(M:Pz G){v:Nat}(hv:v<4):∀(n:Nat)(a b:MP)(r:List ai),a.lo (v+1)->b.lo (v+1)->a.prim v->b.prim v->sQ G v n a.l b.l=some r->∃s:MP,r=s.l/\ry s a b
 | 0,_,_,_,_,_,_,_,h=>by cases h
 | n+1,a,b,r,la,lb,pa,pb,h=>by
  have L:=zY v oM;have b0:=fG pb;have a0:=fG pa;rw[sQ]at h;obtain⟨q,s,e,N⟩:=Aw (a:=a) b0 v;have H:=AA hv lb s;have z:=I6 (lc_ne b0 v) s;have y:=WL hv e b0 la lb;have i:∀d:MP,d.prim v->d∣b->d∣nu v a b->d∣a:=λd X o m=>iL L hv la X H z (by rw[e];exact dvd_add (dvd_mul_of' o q) m)
  have hrem:∀d:MP,d∣a->d∣b->d∣nu v a b:=λd o m=>by
   have e2:nu v a b=(b.lc v)^s*a-q*b:=by rw[e];grind
   rw[e2];exact dvd_sub (dvd_mul_of' o _) (dvd_mul_of' m _)
  split at h
  ·cases h
  ·rename_i hp;have hz:=(UG hp).1;simp only[sJ]at h;have j:nu v a b=0:=zero_iff.2 hz.symm;exact⟨b,h.symm,i b pb (dvd_refl b) (by rw[j];exact dvd_zero b),dvd_refl b,λd _ h=>h⟩
  ·rename_i t l hp;have hz:=(UG hp).1;have j:nu v a b≠0:=λS=>by rw[zero_iff.1 S]at hz;cases hz
   split at h
   ·rename_i E;simp only[sJ]at h;have W:(nu v a b).deg v=0:=by show aH (nu v a b).l v=0;rw[<-hz];exact E
    refine⟨1,by rw[<-h,rH],unit_dvd unit_one a,unit_dvd unit_one b,λd o m=>?_⟩;have hd:=dvd_deg j (hrem d o m) v;exact pb d (by show d.deg v<=0;omega) m
   ·rw[hz]at h;split at h
    ·cases h
    ·rename_i p I;obtain⟨c,Y,rfl,D,c0,cf,hq⟩:=UJ M j I;split at h
     ·cases h
     ·rename_i k F;have F:=zf F;subst F;have R:=fG hq;have O:=zi c0 R D y;obtain⟨C,K⟩:=iD R;obtain⟨x,ex,B⟩:=LG M hv n b (nrm Y) r lb (UK O) pb (sD hq C) h;have J:c.lo v:=yw (jW j (by rw[D];exact dvd_mul_right _ _) y) cf;refine⟨x,ex,i x (sD pb B.l) B.l ?_,B.l,λd o m=>B.u d m (dvd_trans ?_ K)⟩
      ·rw[D];exact dvd_mul_of' (dvd_trans B.r C) c
      ·exact iL L hv O (sD pb m) J c0 (by rw[<-D];exact hrem d o m)
theorem PE{G:List ai->List ai->Option (List ai)}(y:Pz G){v:Nat}(hv:v<4){a b:MP}{r:List ai}(wa:Wp a.l)(wb:Wp b.l)(la:a.lo (v+1))(lb:b.lo (v+1))(u:a.prim v)(pb:b.prim v)(h:BQ G a.l b.l v=some r):∃s:MP,r=s.l/\ry s a b:=by
 have a0:=fG u;have b0:=fG pb;have hex:∀p:MP,Wp p.l->∀m∈p.l,∀w,m.1.get w<18446744073709551616:=λp hp m hm w=>by have:=(hp.exps hm w).2;omega
 unfold BQ at h;split at h
 ·cases h
 ·rename_i m hm;have n:∀d:MP,d∣a->d∣b->d.deg v<=m:=λd i j=>vM hv a0 b0 (hex a wa) (hex b wb) i j hm;split at h
  ·rename_i z;simp only[sJ]at h;refine⟨1,by rw[<-h,rH],unit_dvd unit_one a,unit_dvd unit_one b,λd i j=>u d (by have:=n d i j;show d.deg v<=0;omega) i⟩
  ·split at h
   ·cases h
   ·rename_i o B;split at h
    ·rename_i hc;simp only[sJ]at h;rw[Bool.and_eq_true]at hc
     cases o with
     | none=>cases hc.1
     | some k =>
      obtain⟨t,l,q⟩:=jR b0;have e:=B;unfold yO at e;rw[q]at e;simp only at e;obtain⟨i,j⟩:=Ay (q▸b.v) rfl a.v dI.nil e
      have hd:b∣a:=by refine⟨⟨canon k,fK _⟩,MP.ext' λx=>?_⟩;have:=j x;rw[dJ,<-q]at this;rw[MP.ev_mul];show ev x a.l=ev x b.l*ev x (canon k);rw[mO i];grind
      exact⟨b,h.symm,hd,dvd_refl b,λd _ h=>h⟩
    ·exact LG y hv _ a b r la lb u pb h
theorem EN{g a b:MP}(h:ry g a b):ry g b a:=⟨h.r,h.l,λd x y=>h.u d y x⟩
theorem PG{G:List ai->List ai->Option (List ai)}(d:Pz G){v:Nat}(hv:v<4){a b:MP}{r:List ai}(wa:Wp a.l)(wb:Wp b.l)(la:a.lo (v+1))(lb:b.lo (v+1))(i:a.prim v)(pb:b.prim v)(h:FL G a.l b.l v=some r):∃s:MP,r=s.l/\ry s a b:=by
 unfold FL at h;split at h
 ·obtain⟨s,e,j⟩:=PE d hv wb wa lb la pb i h;exact⟨s,e,EN j⟩
 ·exact PE d hv wa wb la lb i pb h
theorem LH(a b:MP):∀(n:Nat),n<=4->(∀w,n<=w->w<4->a.fr w/\b.fr w)->∀v,uA [a.l,b.l] n=some v->v<4/\a.lo (v+1)/\b.lo (v+1)
 | 0,_,_,v,h=>by cases h
 | n+1,hn,hf,v,h=>by
  rw[uA]at h;split at h
  ·simp only[sJ]at h;subst h;exact⟨by omega,λw d i=>(hf w d i).1,λw d i=>(hf w d i).2⟩
  ·rename_i hc;refine LH a b n (by omega) (λw d i=>?_) v h;rcases Nat.eq_or_lt_of_le d with e|hlt
   ·subst e;simp only[List.any_cons,List.any_nil,Bool.or_false,Bool.or_eq_true,decide_eq_true_eq,not_or]at hc;exact⟨by show aH a.l n<=0;omega,by show aH b.l n<=0;omega⟩
   ·exact hf w hlt i
theorem LJ{a b r:List ai}(h:fQ a b=some r):Wp r:=by
 unfold fQ at h;split at h
 ·have:=kF h;rw[this.1];exact this.2
 ·cases h
theorem mh{α b:Type}{o:Option α}{f:α->Option b}{y:b}(h:fP o f=some y):∃x,o=some x/\f x=some y:=by
 cases o with
 | none=>cases h
 | some x=>exact⟨x,rfl,h⟩
theorem WM{G:List ai->List ai->Option (List ai)}(B:Pz G):Pz (TU G):=λa b r h=>by
 unfold TU at h;split at h
 ·rename_i ha;have ha:=zero_iff.2 ha;refine⟨nrm b,zf h,?_,λm=>xP λh0=>m (by rw[h0,nA])⟩;by_cases hb:b=0
  ·rw[hb,nA,ha];exact⟨dvd_refl _,dvd_refl _,λd h _=>h⟩
  ·exact⟨by rw[ha];exact dvd_zero _,(iD hb).1,λd _ h=>dvd_trans h (iD hb).2⟩
 ·rename_i ha;have a0:a≠0:=λh=>ha (zero_iff.1 h);split at h
  ·rename_i hb;have hb:=zero_iff.2 hb;exact⟨nrm a,zf h,⟨(iD a0).1,by rw[hb];exact dvd_zero _,λd h _=>dvd_trans h (iD a0).2⟩,λ_=>xP a0⟩
  ·rename_i hb;have b0:b≠0:=λh=>hb (zero_iff.1 h);split at h
   ·rename_i hc;simp only[sJ]at h;exact⟨1,by rw[<-h,rH],NV (hc.imp vN vN),λ_=>Az⟩
   ·obtain⟨v,hv,h⟩:=mh h;obtain⟨L,la,lb⟩:=LH a b 4 oM (λw j o=>oM) v hv;have M:=zY v oM;split at h
    ·rename_i hd;obtain⟨c,hc,h⟩:=mh h;obtain⟨k,rfl,J,_⟩:=qQ B hc;obtain⟨g,e,hg⟩:=B k b r h;have O:b.fr v:=Int.le_of_eq hd;exact⟨g,e,⟨dvd_trans hg.i.l J.d,hg.i.r,λd j o=>hg.i.u d (J.u d (tV b0 o O) j) o⟩,hg.n⟩
    ·split at h
     ·rename_i hd;obtain⟨c,hc,h⟩:=mh h;obtain⟨k,rfl,J,_⟩:=qQ B hc;obtain⟨g,e,hg⟩:=B a k r h;have N:a.fr v:=Int.le_of_eq hd;exact⟨g,e,⟨hg.i.l,dvd_trans hg.i.r J.d,λd j o=>hg.i.u d j (J.u d (tV a0 j N) o)⟩,hg.n⟩
     ·obtain⟨x0,hx,h⟩:=mh h;obtain⟨y0,hy,h⟩:=mh h;obtain⟨g0,R,h⟩:=mh h;obtain⟨p0,hp,h⟩:=mh h;obtain⟨q0,hq,h⟩:=mh h;obtain⟨s0,hs,h⟩:=mh h;obtain⟨m0,hm,h⟩:=mh h;obtain⟨x,rfl,S,_⟩:=qQ B hx;obtain⟨y,rfl,W,_⟩:=qQ B hy;obtain⟨g,rfl,hg⟩:=B x y _ R;obtain⟨p,H,pp,E⟩:=jE S a0;obtain⟨q,eq,pq,F⟩:=jE W b0;have X:=LJ hp;have Y:=LJ hq;have e1:=EL (q:=p) E (H.trans (gX x p)) hp;have e2:=EL (q:=q) F (eq.trans (gX y q)) hq;subst e1;subst e2;have Z:=zi E (fG pp) H la;have lq:=zi F (fG pq) eq lb;obtain⟨s,rfl,D⟩:=PG B L X Y Z lq pp pq hs;have hm:m0=(g*s).l:=(kF hm).1;subst hm;have lx:x.lo v:=yw (jW a0 (by rw[H];exact dvd_mul_right _ _) la) S.f;have ly:y.lo v:=yw (jW b0 (by rw[eq];exact dvd_mul_right _ _) lb) W.f
      have C:ry (g*s) a b:=by
       refine⟨by rw[H];exact mul_dvd hg.i.l D.l,by rw[eq];exact mul_dvd hg.i.r D.r,λd j o=>?_⟩;have d0:=dvd_ne a0 j;obtain⟨e,z,rfl,he,a1,K,lz,_⟩:=mH M L (jW a0 j la) d0;have I:e.fr v:=he v (nL _) L;refine mul_dvd (hg.i.u e ?_ ?_) (D.u z ?_ ?_)
       ·exact S.u e I (dvd_trans (dvd_mul_right _ _) j)
       ·exact W.u e I (dvd_trans (dvd_mul_right _ _) o)
       ·exact iL M L Z K lx E (by rw[<-H];exact dvd_trans (dvd_mul_left _ _) j)
       ·exact iL M L lq K ly F (by rw[<-eq];exact dvd_trans (dvd_mul_left _ _) o)
      have m:=UI C a0;exact⟨nrm (g*s),zf h,GV C m,λ_=>xP m⟩
end Q
end
section
namespace Q
open MP
theorem BA{a:MP}{t:ai}{l:List ai}(h:a.l=t::l):hd a=t.2:=by unfold hd;rw[h]
theorem EO{a b:MP}(ha:a≠0)(hb:b≠0):hd (a*b)=hd a*hd b:=by
 obtain⟨s,l,d⟩:=jR ha;obtain⟨t,r,h⟩:=jR hb;have i:aY (s::l):=d▸a.v;have j:aY (t::r):=h▸b.v;obtain⟨k,n⟩:=Co i j;have hz:=jr (i.2 s sM).1 (j.2 t sM).1;obtain⟨m,hm⟩:=Cm (aY.mul _ _) hz k n;have e:(a*b).l=aO (s::l) (t::r):=by show aO a.l b.l=_;rw[d,h]
 rw[BA (e.trans hm),BA d,BA h]
theorem NG.comm{g a b:MP}(h:NG g a b):NG g b a:=⟨EN h.i,h.n⟩
theorem NG.assoc{g h k a b d:MP}(j:NG g a b)(m:NG h b d)(e:NG k g d):NG k a h :=
 ⟨⟨dvd_trans e.i.l j.i.l,m.i.u k (dvd_trans e.i.l j.i.r) e.i.r,λx p o=>e.i.u x (j.i.u x p (dvd_trans o m.i.l)) (dvd_trans o m.i.r)⟩,e.n⟩
theorem NG.self{a:MP}:NG (nrm a) a a:=by
 by_cases h:a=0
 ·rw[h,nA];exact⟨⟨dvd_refl _,dvd_refl _,λd h _=>h⟩,λh=>absurd rfl h⟩
 ·exact⟨⟨(iD h).1,(iD h).1,λd b _=>dvd_trans b (iD h).2⟩,λ_=>xP h⟩
theorem NG.fac{g k a b d:MP}(h:NG g a b)(o:NG k (a*d) (b*d)):k=nrm d*g:=by
 by_cases j:d=0
 ·have e1:k=0:=by
   have:=o.i.u 0 (by rw[j];exact⟨1,gR⟩) (by rw[j];exact⟨1,gR⟩);exact zero_dvd this
  rw[e1,j,nA];grind
 by_cases m:g=0
 ·have ha:a=0:=zero_dvd (m▸h.i.l);have hb:b=0:=zero_dvd (m▸h.i.r)
  have e1:k=0:=by have:=o.i.u 0 (by rw[ha];exact⟨1,gR⟩) (by rw[hb];exact⟨1,gR⟩);exact zero_dvd this
  rw[e1,m];grind
 obtain⟨n1,n2⟩:=iD j;have e1:nrm d*g∣k:=o.i.u _ (by rw[gX a d];exact mul_dvd n1 h.i.l) (by rw[gX b d];exact mul_dvd n1 h.i.r);obtain⟨u,hu⟩:=o.i.u d (dvd_mul_left d a) (dvd_mul_left d b);have q:u∣g:=h.i.u u (dvd_cancel j (by rw[<-hu,gX d a];exact o.i.l)) (dvd_cancel j (by rw[<-hu,gX d b];exact o.i.r));have e2:k∣nrm d*g:=by rw[hu];exact mul_dvd n2 q
 have p:nrm d*g≠0:=mul_ne (I5 j) m;have k0:k≠0:=λe=>p (by rw[e]at e2;exact zero_dvd e2);exact EM k0 e2 e1 (o.n k0) (by rw[EO (I5 j) m,xP j,h.n m];exact Rat.mul_one 1)
theorem NG.coprime{g k a b p q:MP}(h:NG g a b)(d:g≠0)(ea:a=g*p)(eb:b=g*q)(j:NG k p q):k=1:=by
 have m:g*k∣g*1:=by have e:g*1=g:=gR;rw[e];exact h.i.u _ (by rw[ea];exact mul_dvd (dvd_refl g) j.i.l) (by rw[eb];exact mul_dvd (dvd_refl g) j.i.r)
 have hu:k.unit:=dvd_cancel d m;exact EM (tY hu) hu (unit_dvd unit_one k) (j.n (tY hu)) Az
def NC (v:Nat) (g a:MP):Prop:=mX v g a/\(g≠0->hd g=1)
end Q
end
section
namespace Q
open MP Go.Proofs.YtopclbeomcggiaaGreat
structure qW (D H:Nat) (p:MP):Prop where
 d:p.dv D
 a:(D:Rat)*p.am<=(H:Rat)
def In (b:Nat) (p:MP):Prop:=∃D H,0<D/\D<=2^b/\H<=2^b/\qW D H p
theorem bT(n:Nat):(0:Rat)<=(n:Rat):=Rat.natCast_nonneg
theorem zl{m n:Nat}(h:m<=n):(m:Rat)<=(n:Rat):=Rat.natCast_le_natCast.2 h
theorem qW.mono{D H b:Nat}{p:MP}(h:qW D H p)(e:H<=b):qW D b p:=⟨h.d,Rat.le_trans h.a (zl e)⟩
theorem qW.mul{D H b e:Nat}{p q:MP}(h:qW D H p)(i:qW b e q):qW (D*b) (H*e) (p*q):=by refine⟨Uj h.d i.d,?_⟩;have j:=Rat.mul_le_mul_of_nonneg_left (Es p q) (bT (D*b));have k:=pM h.a i.a (Rat.mul_nonneg (bT D) p.am_nonneg) (bT e);rw[Rat.natCast_mul]at j ⊢;rw[Rat.natCast_mul];grind
theorem qW.sub{D H b:Nat}{p q:MP}(h:qW D H p)(e:qW D b q):qW D (H+b) (p-q):=by refine⟨Er h.d e.d,?_⟩;have i:=Rat.mul_le_mul_of_nonneg_left (NK p q) (bT D);have j:=h.a;have k:=e.a;rw[Rat.natCast_add];grind
theorem qW.up{D H:Nat}{p:MP}(h:qW D H p)(K:Nat):qW (D*K) (H*K) p:=by refine⟨Wx (Nat.dvd_mul_right _ _) h.d,?_⟩;have:=Rat.mul_le_mul_of_nonneg_right h.a (bT K);rw[Rat.natCast_mul,Rat.natCast_mul];grind
theorem Z6(v n:Nat)(p:MP):(p.co v n).am<=p.am:=by
 have e:bL (aG p.l v n)=bL (p.l.filter λt=>t.1.get v=(n:Int)):=by
  unfold aG;generalize p.l.filter _=l
  induction l with
  | nil=>rfl
  | cons u l b=>simp only[List.map_cons,bL,b]
 show bL (aG p.l v n)<=bL p.l;rw[e]
 have d:∀l:List ai,bL (l.filter λt=>t.1.get v=(n:Int))<=bL l:=λl=>by
  induction l with
  | nil=>exact Rat.le_refl
  | cons t l b =>
   have:=fo t.2;rw[List.filter_cons];split<;>simp only[bL]<;>grind
 exact d p.l
theorem qW.co{D H:Nat}{p:MP}(h:qW D H p)(v n:Nat):qW D H (p.co v n) :=
 ⟨XA h.d v n,Rat.le_trans (Rat.mul_le_mul_of_nonneg_left (Z6 v n p) (bT D)) h.a⟩
theorem I7{l r:List ai}(h:r.Sublist l):bL r<=bL l:=by
 induction h with
 | slnil=>exact Rat.le_refl
 | cons t _ b=>have:=fo t.2;simp only[bL];grind
 | cons_cons t _ b=>simp only[bL];grind
theorem qW.part{D H:Nat}{p q:MP}(h:qW D H p)(b:q.l.Sublist p.l):qW D H q :=
 ⟨λt e=>h.d t (b.subset e),Rat.le_trans (Rat.mul_le_mul_of_nonneg_left (I7 b) (bT D)) h.a⟩
theorem qW.zero(D H:Nat):qW D H 0:=⟨IM D,by rw[Pg,Rat.mul_zero];exact bT H⟩
namespace In
variable {b c:Nat} {p q:MP}
theorem mono(h:In b p)(hb:b<=c):In c p:=by obtain⟨D,H,d,i,j,e⟩:=h;have:=Nat.pow_le_pow_right (oM:0<2) hb;exact⟨D,H,d,oM,oM,e⟩
theorem mul(h:In b p)(i:In c q):In (b+c) (p*q):=by
 obtain⟨D,H,j,k,l,m⟩:=h;obtain⟨d,e,n,o,r,s⟩:=i;refine⟨D*d,H*e,Nat.mul_pos j n,?_,?_,m.mul s⟩
 ·rw[Nat.pow_add];exact Nat.mul_le_mul k o
 ·rw[Nat.pow_add];exact Nat.mul_le_mul l r
theorem co(h:In b p)(v n:Nat):In b (p.co v n):=by obtain⟨D,H,d,e,i,j⟩:=h;exact⟨D,H,d,e,i,j.co v n⟩
theorem part(h:In b p)(k:q.l.Sublist p.l):In b q:=by obtain⟨D,H,d,e,i,j⟩:=h;exact⟨D,H,d,e,i,j.part k⟩
theorem zero(b:Nat):In b 0:=⟨1,1,oM,Nat.one_le_two_pow,Nat.one_le_two_pow,qW.zero 1 1⟩
theorem one(b:Nat):In b 1:=⟨1,1,oM,Nat.one_le_two_pow,Nat.one_le_two_pow,YC 1,by rw[YD,Rat.mul_one];exact Rat.le_refl⟩
end In
theorem xQ{p:MP}(h:p≠0):∃t∈p.l,hd p=t.2:=by obtain⟨t,l,e⟩:=jR h;exact⟨t,by rw[e];simp,BA e⟩
theorem PH{p:MP}(h:p≠0):bO (hd p)<=p.am:=by obtain⟨t,b,e⟩:=xQ h;rw[e];exact rZ b
theorem qW.hd{D H:Nat}{p:MP}(h:qW D H p)(b:p≠0):qW D H (c (Q.hd p)):=by obtain⟨t,i,e⟩:=xQ b;refine⟨Rc (by rw[e];exact h.d t i),?_⟩;rw[Lb];exact Rat.le_trans (Rat.mul_le_mul_of_nonneg_left (PH b) (bT D)) h.a
theorem In.hd{b:Nat}{p:MP}(h:In b p)(d:p≠0):In b (c (Q.hd p)):=by obtain⟨D,H,e,i,j,k⟩:=h;exact⟨D,H,e,i,j,k.hd d⟩
theorem I8{p:MP}(h:p≠0):hd p*(1/hd p)=1:=by have:=Rat.div_mul_cancel (a:=1) (Bz h);grind
theorem qW.nrm{D H:Nat}{p:MP}(i:qW D H p)(u:0<D)(h:p≠0):∃z:Nat,0<z/\(z:Rat)=(D:Rat)*bO (Q.hd p)/\z<=H/\qW z H (Q.nrm p):=by
 obtain⟨z,hz⟩:∃z:Int,Q.hd p*(D:Rat)=(z:Rat):=by obtain⟨t,m,e⟩:=xQ h;rw[e];exact i.d t m
 have j:(D:Rat)≠0:=jG u;have x:=Bz h;have l:=I8 h
 have C:z≠0:=λe=>by rw[e]at hz;exact jr x j hz
 have b:((z.natAbs:Nat):Rat)=bO (z:Rat):=(Q.rabs_int z).symm;have e2:bO (z:Rat)=(D:Rat)*bO (Q.hd p):=by rw[<-hz,jB,bK (bT D)];grind
 have n:z.natAbs<=H:=by
  have e1:=Rat.mul_le_mul_of_nonneg_left (PH h) (bT D);have q:((z.natAbs:Nat):Rat)<=(H:Rat):=by rw[b,e2];exact Rat.le_trans e1 i.a
  exact Rat.natCast_le_natCast.1 q
 refine⟨z.natAbs,oM,by rw[b,e2],n,?_,?_⟩
 ·intro t m;obtain⟨s,B,rfl⟩:=Et m;obtain⟨k,y⟩:=i.d s B;have o:s.2*(1/Q.hd p)*(z:Rat)=(k:Rat):=by rw[<-hz,<-y];grind
  rcases Int.natAbs_eq z with e|e
  ·refine⟨k,?_⟩;show s.2*(1/Q.hd p)*((z.natAbs:Nat):Rat)=k;rw[<-iN,<-e];exact o
  ·refine⟨-k,?_⟩;show s.2*(1/Q.hd p)*((z.natAbs:Nat):Rat)=_;rw[<-iN,(oM:((z.natAbs:Nat):Int)=-z),Rat.intCast_neg,Rat.intCast_neg,<-o];grind
 ·show _*(c (1/Q.hd p)*p).am<=_;rw[oh,b,<-hz,jB,bK (bT D)];have r:bO (Q.hd p)*bO (1/Q.hd p)=1:=by rw[<-jB,l];exact sU
  have:bO (Q.hd p)*(D:Rat)*(bO (1/Q.hd p)*p.am)=(bO (Q.hd p)*bO (1/Q.hd p))*((D:Rat)*p.am):=gR;rw[this,r,Rat.one_mul];exact i.a
theorem In.nrm{b:Nat}{p:MP}(h:In b p):In b (Q.nrm p):=by
 by_cases d:p=0
 ·rw[d,nA];exact In.zero b
 obtain⟨D,H,e,m,i,j⟩:=h;obtain⟨z,k,-,n,l⟩:=j.nrm e d;exact⟨z,H,k,oM,i,l⟩
theorem LK{r:Rat}(d:r≠0)(f:MP):nrm (c r*f)=nrm f:=by
 by_cases h:f=0
 ·have e:c r*f=0:=by rw[h];grind
  rw[e,h]
 have b:=Bz h;have j:hd f*r≠0:=jr b d;rw[nrm,nrm,uw d]
 have e:(1:Rat)/(hd f*r)*r=1/hd f:=by
  have e1:=Rat.div_mul_cancel (a:=1) j;have e2:=Rat.div_mul_cancel (a:=1) b;have k:(1:Rat)/(hd f*r)*r*hd f=1/hd f*hd f:=gR;have i:((1:Rat)/(hd f*r)*r - 1/hd f)*hd f=0:=gR;rcases Rat.mul_eq_zero.1 i with h|h
  ·grind
  ·exact absurd h b
 rw[<-e,<-lC];grind
def Dg (d:Nat->Nat) (p:MP):Prop:=∀w,w<4->p.deg w<=d w
theorem Dg.mono{d e:Nat->Nat}{p:MP}(h:Dg d p)(hd:∀w,d w<=e w):Dg e p:=λw b=>by have:=h w b;have:=hd w;omega
theorem Dg.dvd{d:Nat->Nat}{p q:MP}(h:Dg d p)(b:p≠0)(hq:q∣p):Dg d q:=λw e=>Int.le_trans (dvd_deg b hq w) (h w e)
theorem sZ{r:Rat}(b:r≠0){p:MP}(h:p≠0)(w:Nat):(c r*p).deg w=p.deg w:=by rw[deg_mul (vJ b) h];have d:=deg_pos (vJ b) w;have e:(c r).deg w<=0:=qf r w;omega
theorem EP{r:Rat}(b:r≠0)(p:MP):c r*p∣p/\p∣c r*p:=by
 refine⟨⟨c r⁻¹,?_⟩,⟨c r,gR⟩⟩;have h:c r*c r⁻¹=1:=by rw[lC,Rat.mul_inv_cancel _ b];rfl
 grind
theorem In.fac{b k n:Nat}{a f:MP}{d:Nat->Nat}(E:n<=4)(h:In b a)(l:a≠0)(hf:f∣a)(C:a.lo n)(hd:Dg d a)(B:vK d n<=2^k):In (b+k) (Q.nrm f):=by
 obtain⟨D,H,u,I,x,p⟩:=h;obtain⟨g,o⟩:=hf;have f0:f≠0:=λe=>l (by rw[o,e];grind);obtain⟨r,s,hp⟩:=Pj f0;have i:(D:Rat)≠0:=jG u
 have e:c (D:Rat)*a=(c r*f)*(c ((D:Rat)*r⁻¹)*g):=by
  have y:c r*c ((D:Rat)*r⁻¹)=c (D:Rat):=by rw[lC];congr 1;have:=Rat.mul_inv_cancel _ s;grind
  rw[o,<-y];grind
 have G:(c (D:Rat)*a).dv 1:=qO p.d;have F:=Ey G hp e;have m:c (D:Rat)*a≠0:=mul_ne (vJ i) l;have j:=MP.fac d n E _ _ _ e m hp.1 F (jW l (EP i a).1 C) λw J=>by rw[sZ i l];exact hd w oM
 rw[oh (D:Rat) a,bK (bT D)]at j
 have z:In (b+k) (c r*f):=by
  refine⟨1,2^(b+k),oM,Nat.one_le_two_pow,nL _,hp.1,?_⟩;have e1:((1:Nat):Rat)=1:=rfl;rw[e1,Rat.one_mul]
  have q:(vK d n:Rat)*((D:Rat)*a.am)<=((2^k:Nat):Rat)*((2^b:Nat):Rat) :=
   pM (zl B) (Rat.le_trans p.a (zl x)) (bT _) (bT _)
  rw[<-Rat.natCast_mul,<-Nat.pow_add,Nat.add_comm]at q;exact Rat.le_trans j q
 have:=z.nrm;rwa[LK s]at this
theorem EQ{p:MP}(h:p≠0):p=c (hd p)*nrm p:=by
 have b:c (hd p)*c (1/hd p)=1:=by rw[lC,I8 h];rfl
 rw[nrm];grind
theorem In.quot{b k n:Nat}{a q z:MP}{d:Nat->Nat}(r:n<=4)(h:In b a)(i:a≠0)(e:a=q*z)(hz:Q.hd z=1)(p:a.lo n)(hd:Dg d a)(o:vK d n<=2^k):In (b+(b+k)) q:=by
 have j:q≠0:=λh=>i (by rw[e,h];grind);have s:z≠0:=λh=>i (by rw[e,h];grind);have e1:Q.hd a=Q.hd q:=by rw[e,EO j s,hz,Rat.mul_one]
 have l:=h.fac r i ⟨z,e⟩ p hd o;have m:=(h.hd i).mul l;rwa[e1,<-EQ j]at m
end Q
end
section
namespace Q
open MP Go.Proofs.YtopclbeomcggiaaGreat
theorem zo:∀(N:Nat)(L:List Nat),L.Nodup->(∀x∈L,x<N)->L.length<=N
 | 0,L,_,h=>by
  cases L with
  | nil=>simp
  | cons x L=>have:=h x sM;omega
 | N+1,L,hn,h=>by
  by_cases i:N∈L
  ·have j:=zo N (L.erase N) (hn.erase N) λx b=>by
    have d:=(hn.mem_erase_iff).1 b;have:=h x d.2;have:=d.1;omega
   rw[List.length_erase_of_mem i]at j;omega
  ·have:=zo N L hn λx b=>by
    have:=h x b;have:x≠N:=λe=>i (e▸b);omega
   omega
def bx (d:Nat->Nat):Nat:=(d 0+1)*(d 1+1)*(d 2+1)*(d 3+1)
def NW (d:Nat->Nat) (e:Ex):Prop:=e.nat=true/\∀w,w<4->e.get w<=d w
def PI (d:Nat->Nat) (e:Ex):Nat:=((e.1.toNat * (d 1+1)+e.2.1.toNat)*(d 2+1)+e.2.2.1.toNat)*(d 3+1)+e.2.2.2.toNat
theorem I9{a b A B:Nat}(ha:a<A)(hb:b<B):a*B+b<A*B:=by have:=Nat.mul_le_mul_right B (oM:a+1<=A);rw[Nat.add_mul]at this;omega
theorem ER{a b a' b' B:Nat}(hb:b<B)(d:b' < B)(h:a*B+b=a'*B+b'):a=a'/\b=b':=by
 have e:(a*B+b)/B=a:=by rw[Nat.mul_comm,Nat.mul_add_div oM,Nat.div_eq_of_lt hb,Nat.add_zero]
 have i:(a'*B+b')/B=a':=by rw[Nat.mul_comm,Nat.mul_add_div oM,Nat.div_eq_of_lt d,Nat.add_zero]
 have j:a=a':=by rw[<-e,<-i,h]
 subst j;omega
theorem NW.parts{d:Nat->Nat}{e:Ex}(h:NW d e):e.1.toNat<d 0+1/\e.2.1.toNat<d 1+1/\e.2.2.1.toNat<d 2+1/\e.2.2.2.toNat<d 3+1/\0<=e.1/\0<=e.2.1/\0<=e.2.2.1/\0<=e.2.2.2:=by have i:=Ex.nat_iff.1 h.1;have a0:=h.2 0 oM;have a1:=h.2 1 oM;have a2:=h.2 2 oM;have b:=h.2 3 oM;simp only[Ex.get]at a0 a1 a2 b;omega
theorem WN{d:Nat->Nat}{e:Ex}(h:NW d e):PI d e<bx d:=by obtain⟨b,i,j,k,_⟩:=h.parts;exact I9 (I9 (I9 b i) j) k
theorem WO{d:Nat->Nat}{e f:Ex}(h:NW d e)(i:NW d f)(hc:PI d e=PI d f):e=f:=by obtain⟨s,j,k,l,z,n1,n2,B⟩:=h.parts;obtain⟨k0,m,n,o,u,m1,x,y⟩:=i.parts;obtain⟨c1,c2⟩:=ER l o hc;obtain⟨b,p⟩:=ER k n c1;obtain⟨q,r⟩:=ER j m b;exact Ex.ext' oM oM oM oM
theorem Ja{d:Nat->Nat}{L:List Ex}(b:L.Nodup)(h:∀e∈L,NW d e):L.length<=bx d:=by
 have i:(L.map (PI d)).Nodup:=by
  induction L with
  | nil=>exact List.nodup_nil
  | cons e L k =>
   rw[List.nodup_cons]at b;rw[List.map_cons,List.nodup_cons];refine⟨λhm=>?_,k b.2 λf hf=>h f (by simp[hf])⟩;obtain⟨f,hf,hc⟩:=List.mem_map.1 hm;exact b.1 (WO (h e sM) (h f (by simp[hf])) hc.symm▸hf)
 have:=zo (bx d) _ i λx j=>by obtain⟨e,he,rfl⟩:=List.mem_map.1 j;exact WN (h e he)
 rwa[List.length_map]at this
theorem Rm{l:List ai}(h:Ht l):(l.map Prod.fst).Nodup:=by
 induction l with
 | nil=>exact List.nodup_nil
 | cons t l d =>
  have b:=List.pairwise_cons.1 h;rw[List.map_cons,List.nodup_cons];refine⟨λhm=>?_,d b.2⟩;obtain⟨u,hu,e⟩:=List.mem_map.1 hm;exact Ex.gt_ne (b.1 u hu) e.symm
theorem Dg.inB{d:Nat->Nat}{p:MP}(h:Dg d p):∀t∈p.l,NW d t.1:=λt b=>⟨(p.v.2 t b).2,λw e=>Int.le_trans (fw b w) (h w e)⟩
theorem Dg.len{d:Nat->Nat}{p:MP}(h:Dg d p):p.l.length<=bx d:=by
 have:=Ja (Rm p.v.1) (d:=d) λe he=>by obtain⟨t,b,rfl⟩:=List.mem_map.1 he;exact h.inB t b
 rwa[List.length_map]at this
theorem PK{d:Nat->Nat}{p:MP}(h:∀t∈p.l,NW d t.1):Dg d p:=λw i=>by
 rcases(iO (λt=>t.1.get w) p.l (-1)).2.2 with e|⟨t,b,e⟩
 ·show aH p.l w<=_;unfold aH;rw[e];omega
 ·show aH p.l w<=_;unfold aH;rw[<-e];exact(h t b).2 w i
theorem le4{a b c e:Nat}(ha:0<a)(hb:0<b)(hc:0<c)(he:0<e):a<=a*b*c*e/\b<=a*b*c*e/\c<=a*b*c*e/\e<=a*b*c*e:=by
 have e1:a*b*c*e=a*(b*c*e):=by simp only[Nat.mul_assoc]
 have e2:a*b*c*e=b*(a*c*e):=by simp only[Nat.mul_comm,Nat.mul_left_comm]
 have d:a*b*c*e=c*(a*b*e):=by simp only[Nat.mul_comm,Nat.mul_left_comm]
 have h:a*b*c*e=e*(a*b*c):=by simp only[Nat.mul_comm,Nat.mul_left_comm]
 refine⟨?_,?_,?_,?_⟩
 ·rw[e1];exact Nat.le_mul_of_pos_right _ (Nat.mul_pos (Nat.mul_pos hb hc) he)
 ·rw[e2];exact Nat.le_mul_of_pos_right _ (Nat.mul_pos (Nat.mul_pos ha hc) he)
 ·rw[d];exact Nat.le_mul_of_pos_right _ (Nat.mul_pos (Nat.mul_pos ha hb) he)
 ·rw[h];exact Nat.le_mul_of_pos_right _ (Nat.mul_pos (Nat.mul_pos ha hb) hc)
theorem Z7(d:Nat->Nat):d 0+1<=bx d/\d 1+1<=bx d/\d 2+1<=bx d/\d 3+1<=bx d:=le4 oM oM oM oM
theorem NY{D:Nat}{x:Rat}(i:0<D)(h:Dv D x):x.den∣D/\bO ((x.num:Int):Rat)<=(D:Rat)*bO x:=by
 obtain⟨k,b⟩:=h;have j:(D:Rat)≠0:=jG i
 have hc:x=Rat.divInt k D:=by rw[Rat.divInt_eq_div,iN,<-b];grind
 obtain⟨e1,e2⟩:=tQ k D oM;rw[<-hc]at e1 e2;refine⟨Int.natCast_dvd_natCast.1 ⟨(Int.gcd k D:Int),by rw[e2];exact(Int.ediv_mul_cancel (Int.gcd_dvd_right _ _)).symm⟩,?_⟩;have d:x.num.natAbs<=k.natAbs:=by rw[e1];exact Int.natAbs_ediv_le_natAbs _ _
 have e:(D:Rat)*bO x=bO (k:Rat):=by rw[<-b,jB,bK (bT D)];grind
 rw[e,Q.rabs_int,Q.rabs_int];exact zl d
theorem WP{D:Nat}{x:Rat}(h:Dv D x):Dv D (bO x):=by
 unfold bO;split
 ·exact h.neg
 ·exact h
theorem Jb{D:Nat}:∀{l:List ai},(∀t∈l,Dv D t.2)->Dv D (bL l)
 | [],_=>Dv.zero D
 | t::l,h=>(WP (h t (by simp))).add (Jb λu hu=>h u (by simp[hu]))
theorem LM{D:Nat}:∀{l:List ai},(∀t∈l,t.2.den∣D)->xG l∣D
 | [],_=>Nat.one_dvd D
 | t::l,h=>Nat.lcm_dvd (h t (by simp)) (LM λu hu=>h u (by simp[hu]))
theorem Jc{n b:Nat}(h:n<=2^b):aJ n<=b+1:=jS (Nat.lt_of_le_of_lt h (Nat.pow_lt_pow_right oM oM))
theorem UL{d:Nat->Nat}{b D H:Nat}{l:List ai}(q:∀t∈l,NW d t.1)(hd:bx d<=10000)(p:l.length<=10000)(i:0<D)(j:D<=2^b)(n:H<=2^b)(hv:∀t∈l,Dv D t.2)(ha:(D:Rat)*bL l<=(H:Rat))(hb:b<LB):Vw l=true:=by
 simp only[Vw,Bool.and_eq_true,decide_eq_true_eq,List.all_eq_true];have o:=Z7 d;refine⟨⟨⟨p,λt k=>?_⟩,?_⟩,?_⟩
 ·obtain⟨r,e,h,m,s,n1,n2,u⟩:=(q t k).parts;exact⟨⟨⟨⟨⟨⟨⟨oM,oM⟩,oM⟩,oM⟩,oM⟩,oM⟩,oM⟩,oM⟩
 ·have e:xG l∣D:=LM λt k=>(NY i (hv t k)).1;have h:=jl (Nat.le_trans (Nat.le_of_dvd i e) j);have m:=Jc (nL (2^b));omega
 ·have e:=(NY i (Jb hv)).2;rw[bK (kH l),Q.rabs_int]at e;have h:QZ l<=H:=Rat.natCast_le_natCast.1 (Rat.le_trans e ha);have m:=Jc (Nat.le_trans h n);omega
theorem uD{d:Nat->Nat}{b:Nat}{p:MP}(h:Dg d p)(m:In b p)(hd:bx d<=10000)(hb:b<LB):BP p.l=true:=by obtain⟨D,H,i,j,k,e⟩:=m;rw[BP,Bool.and_eq_true];exact⟨sI.2 p.v,UL h.inB hd (Nat.le_trans h.len hd) i j k e.d e.a hb⟩
theorem PL{p:MP}(h:BP p.l=true):g1 p.l=some p.l:=by rw[g1,if_pos h]
theorem qR{d:Nat->Nat}{b:Nat}{p:MP}(h:Dg d p)(m:In b p)(hd:bx d<=10000)(hb:b<LB):kG p.l=some (nrm p).l:=by
 by_cases i:p=0
 ·rw[i,nA];rfl
 ·have k:=uD (h.dvd i (iD i).1) m.nrm hd hb;obtain⟨t,l,e⟩:=jR i;have e2:(nrm p).l=bY p.l (1/t.2):=by rw[nrm,BA e,wH]
  have j:=PL k;rw[e2]at j ⊢;rw[e]at j ⊢;exact j
theorem xR{g:ai}{ts:List ai}(hv:aY (g::ts)):∀(s out:List ai)(n:Nat),aY s->(∀x r,x::r <:+ s->BP (aO (x::r) (g::ts))=true/\BP [x]=true)->s.length+1<=n->sO (g::ts) g n (aO s (g::ts)) out=some (some (out++s))
 | [],out,n,_,_,hn=>by obtain⟨n,rfl⟩:∃m,n=m+1:=⟨n - 1,by simp at hn;omega⟩;rw[show aO [] (g::ts)=[]from rfl,sO,List.append_nil]
 | x::s,out,n,hs,hw,hn=>by obtain⟨n,rfl⟩:∃m,n=m+1:=⟨n - 1,by simp at hn;omega⟩;have hz:=(hv.2 g sM).1;have e:=hs.2 x sM;obtain⟨h,i⟩:=Co hs hv;obtain⟨a,ha⟩:=Cm (aY.mul _ _) (jr e.1 hz) h i;obtain⟨w1,o⟩:=hw x s (List.suffix_refl _);have l:=xR hv s (out++[x]) n hs.tail (λy r k=>hw y r (k.trans (List.suffix_cons x s))) (by simp at hn;omega);have b:=Eo hs hv aY.nil;rw[yT (aY.mul _ _),yT (aY.mul _ _)]at b;rw[ha]at w1 b ⊢;have d:=Em (x:=x) hz;have j:((x.1.add g.1).sub g.1)=x.1:=congrArg Prod.fst d;rw[sO,if_pos w1,if_pos (by show((x.1.add g.1).sub g.1).nat=true;rw[j];exact e.2),d,if_pos o,b,l];simp
theorem zq{d:Nat->Nat}{b k:Nat}{a q z:MP}(u:z≠0)(e:a=q*z)(hd:Dg d a)(D:bx d<=10000)(hq:In b q)(hz:In k z)(hb:b+k<LB):fQ a.l z.l=some q.l:=by
 obtain⟨g,ts,m⟩:=jR u;by_cases s:q=0
 ·have ha:a=0:=by rw[e,s];grind
  rw[ha,s,fQ,m];rfl
 have a0:a≠0:=by rw[e];exact mul_ne s u
 have i:Dg d q:=hd.dvd a0 ⟨z,e⟩;have F:Dg d z:=hd.dvd a0 ⟨q,by rw[e];grind⟩;have j:∀w,q.deg w+z.deg w=a.deg w:=λw=>by rw[e,deg_mul s u]
 have key:=xR (m▸z.v) q.l [] fuel q.v (λx r o=>by
  have hv:aY (x::r):=q.v.sublist o.sublist;have hp:In b (⟨x::r,hv⟩:MP):=hq.part o.sublist
  have y:∀w,(⟨x::r,hv⟩:MP).deg w<=q.deg w:=λw=>by
   rcases(iO (λt=>t.1.get w) (x::r) (-1)).2.2 with e|⟨t,G,e⟩
   ·show aH (x::r) w<=_;unfold aH;rw[e];exact deg_ge w q
   ·show aH (x::r) w<=_;unfold aH;rw[<-e];exact fw (o.sublist.subset G) w
  have B:(⟨x::r,hv⟩:MP)≠0:=λh=>by have:=zero_iff.1 h;cases this
  refine⟨?_,?_⟩
  ·have E:=uD (d:=d) (p:=(⟨x::r,hv⟩:MP)*z) (λw C=>by
    rw[deg_mul B u];have:=j w;have:=y w;have:=hd w C;omega) (hp.mul hz) D hb
   rw[<-m];exact E
  ·have n:aY [x]:=hv.sublist (List.singleton_sublist.2 sM)
   exact uD (d:=d) (p:=(⟨[x],n⟩:MP)) (λw C=>by
    show aH [x] w<=_;have E:=fw (o.sublist.subset (sM:x∈x::r)) w;have H:=i w C;have I:q.deg w=aH q.l w:=rfl;show max (-1) (x.1.get w)<=_
    omega) (hp.part (q:=⟨[x],n⟩) (List.singleton_sublist.2 sM)) D oM)
  (by have:=i.len;unfold fuel;omega)
 have e2:a.l=aO q.l (g::ts):=by rw[e,<-m];rfl
 rw[fQ,m,e2];simp only[yO,key,List.nil_append,Option.getD_some];exact PL (uD i hq D oM)
def wt (B:Int) (e:Ex):Int:=e.1+B*(e.2.1+B*(e.2.2.1+B*e.2.2.2))
theorem YR(B:Int)(e f:Ex):wt B (e.add f)=wt B e+wt B f:=by simp only[wt,Ex.add];grind
theorem YS(B:Int)(e f:Ex):wt B (e.sub f)=wt B e-wt B f:=by simp only[wt,Ex.sub];grind
theorem bN{B x d h b:Int}(e:0<=B)(k:x<=B-1)(j:0<=d)(i:h<b):x+B*h<d+B*b:=by have:=mZ (oM:h+1<=b) e;rw[Int.mul_add,Int.mul_one]at this;omega
theorem mR{B x h H:Int}(b:0<=B)(e:x<=B-1)(d:h<=H-1):x+B*h<=B*H-1:=by have:=mZ (oM:h+1<=H) b;rw[Int.mul_add,Int.mul_one]at this;omega
theorem Z8{v d:Nat}{g u:Ex}(hg:g.nat=true)(hu:u.nat=true)(hd:∀w,w<v->u.get w<=d)(hz:∀w,v<w->w<4->u.get w=0/\g.get w=0)(h:g.gt u=true):wt ((d:Int)+1) u<wt ((d:Int)+1) g:=by
 rw[Ex.gt_iff]at h;rw[Ex.nat_iff]at hg hu;have d0:=hd 0;have d1:=hd 1;have d2:=hd 2;have i:=hz 1;have j:=hz 2;have k:=hz 3;simp only[Ex.get]at d0 d1 d2 i j k;have b:(0:Int)<=(d:Int)+1:=oM;unfold wt;rcases h with h|⟨e,h|⟨e2,h|⟨e1,h⟩⟩⟩
 ·have hv:3<=v:=by
   rcases Nat.lt_or_ge v 3 with h'|h'
   ·have:=k h' oM;omega
   ·exact h'
  exact bN b (by have:=d0 oM;omega) oM (bN b (by have:=d1 oM;omega) oM (bN b (by have:=d2 oM;omega) oM h))
 ·have hv:2<=v:=by
   rcases Nat.lt_or_ge v 2 with h'|h'
   ·have:=j h' oM;omega
   ·exact h'
  rw[e];exact bN b (by have:=d0 oM;omega) oM (bN b (by have:=d1 oM;omega) oM oM)
 ·have hv:1<=v:=by
   rcases Nat.lt_or_ge v 1 with h'|h'
   ·have:=i h' oM;omega
   ·exact h'
  rw[e,e2];exact bN b (by have:=d0 oM;omega) oM oM
 ·rw[e,e2,e1];omega
def UM (v d M:Nat):Nat:=(M+1)*(d+1)^v
theorem Z9{v d M:Nat}{e:Ex}(hv:v<4)(hd:∀w,w<v->e.get w<=d)(hm:e.get v<=M)(hz:∀w,v<w->w<4->e.get w=0):wt ((d:Int)+1) e<=(UM v d M:Nat):=by
 have d0:=hd 0;have d1:=hd 1;have d2:=hd 2;have m:=hz 1;have k:=hz 2;have i:=hz 3;simp only[Ex.get]at d0 d1 d2 m k i;have b:(0:Int)<=(d:Int)+1:=oM
 have e1:((UM v d M:Nat):Int)=((M:Int)+1)*((d:Int)+1)^v:=by unfold UM;rw[Int.natCast_mul,Int.natCast_pow];rfl
 rw[e1];unfold wt;obtain rfl|rfl|rfl|rfl:v=0\/v=1\/v=2\/v=3:=oM
 ·simp only[Ex.get]at hm;rw[m oM oM,k oM oM,i oM oM,Int.mul_zero,Int.add_zero,Int.mul_zero,Int.add_zero,Int.mul_zero,Int.add_zero,Int.pow_zero,Int.mul_one];omega
 ·simp only[Ex.get]at hm;rw[k oM oM,i oM oM,Int.mul_zero,Int.add_zero,Int.mul_zero,Int.add_zero];have:=mR (h:=e.2.1) (H:=(M:Int)+1) b (show e.1<=_ by have:=d0 oM;omega) oM;have e2:((M:Int)+1)*((d:Int)+1)^1=((d:Int)+1)*((M:Int)+1):=gR;rw[e2];omega
 ·simp only[Ex.get]at hm;rw[i oM oM,Int.mul_zero,Int.add_zero];have j:=mR (h:=e.2.2.1) (H:=(M:Int)+1) b (show e.2.1<=_ by have:=d1 oM;omega) oM;have l:=mR b (show e.1<=_ by have:=d0 oM;omega) j;have e2:((M:Int)+1)*((d:Int)+1)^2=((d:Int)+1)*(((d:Int)+1)*((M:Int)+1)):=gR;rw[e2];omega
 ·simp only[Ex.get]at hm;have j:=mR (h:=e.2.2.2) (H:=(M:Int)+1) b (show e.2.2.1<=_ by have:=d2 oM;omega) oM;have l:=mR b (show e.2.1<=_ by have:=d1 oM;omega) j;have n:=mR b (show e.1<=_ by have:=d0 oM;omega) l;have e2:((M:Int)+1)*((d:Int)+1)^3=((d:Int)+1)*(((d:Int)+1)*(((d:Int)+1)*((M:Int)+1))):=gR;rw[e2];omega
def WQ (v d W:Nat) (w:Nat):Nat:=if w<=v then W/(d+1)^w else 0
theorem zaa{B:Int}(b:0<=B){e:Ex}(he:e.nat=true):e.1<=wt B e/\e.2.1*B<=wt B e/\e.2.2.1*B^2<=wt B e/\e.2.2.2*B^3<=wt B e:=by
 rw[Ex.nat_iff]at he;obtain⟨m,i,j,k⟩:=he;have a1:=Int.mul_nonneg b i;have a2:=Int.mul_nonneg b (Int.mul_nonneg b j);have l:=Int.mul_nonneg b (Int.mul_nonneg b (Int.mul_nonneg b k));have e1:wt B e=e.1+B*e.2.1+B*(B*e.2.2.1)+B*(B*(B*e.2.2.2)):=by unfold wt;grind
 have e2:e.2.1*B=B*e.2.1:=Int.mul_comm _ _;have d:e.2.2.1*B^2=B*(B*e.2.2.1):=gR;have h:e.2.2.2*B^3=B*(B*(B*e.2.2.2)):=gR;rw[e1,e2,d,h];omega
theorem YT{v d W:Nat}{e:Ex}(he:e.nat=true)(n:wt ((d:Int)+1) e<=W)(hz:∀w,v<w->w<4->e.get w=0):NW (WQ v d W) e:=by
 refine⟨he,λw m=>?_⟩;unfold WQ;split
 ·have o:=Ex.nat_get he w;obtain⟨k,b⟩:∃k:Nat,e.get w=k:=⟨(e.get w).toNat,oM⟩;rw[b];refine Int.ofNat_le.2 ((Nat.le_div_iff_mul_le (Nat.pow_pos oM)).2 ?_);refine Int.ofNat_le.1 (Int.le_trans ?_ n);obtain⟨i,g1,j,l⟩:=zaa (B:=(d:Int)+1) oM he;have h:((k*(d+1)^w:Nat):Int)=e.get w*((d:Int)+1)^w:=by rw[b,Int.natCast_mul,Int.natCast_pow];rfl
  rw[h];obtain rfl|rfl|rfl|rfl:w=0\/w=1\/w=2\/w=3:=oM
  ·rw[Int.pow_zero,Int.mul_one];exact i
  ·rw[(gR:((d:Int)+1)^1=(d:Int)+1)];exact g1
  ·exact j
  ·exact l
 ·rw[hz w oM m];omega
theorem In.inv{b:Nat}{p:MP}(h:In b p)(j:p≠0):In b (c (1/Q.hd p)):=by
 obtain⟨D,H,q,r,B,m⟩:=h
 obtain⟨z,hz⟩:∃z:Int,Q.hd p*(D:Rat)=(z:Rat):=by obtain⟨t,u,e⟩:=xQ j;rw[e];exact m.d t u
 have k:(D:Rat)≠0:=jG q;have s:=Bz j;have l:=I8 j
 have x:z≠0:=λe=>by rw[e]at hz;exact jr s k hz
 have i:((z.natAbs:Nat):Rat)=bO (z:Rat):=(Q.rabs_int z).symm
 have y:z.natAbs<=H:=by
  have e1:=Rat.mul_le_mul_of_nonneg_left (PH j) (bT D);have e2:bO (z:Rat)=(D:Rat)*bO (Q.hd p):=by rw[<-hz,jB,bK (bT D)];grind
  have n:((z.natAbs:Nat):Rat)<=(H:Rat):=by rw[i,e2];exact Rat.le_trans e1 m.a
  exact Rat.natCast_le_natCast.1 n
 refine⟨z.natAbs,D,oM,oM,r,Rc ?_,?_⟩
 ·rcases Int.natAbs_eq z with e|e
  ·refine⟨D,?_⟩;rw[<-iN,<-e,<-hz,iN];grind
  ·refine⟨-D,?_⟩;rw[<-iN,(oM:((z.natAbs:Nat):Int)=-z),Rat.intCast_neg,Rat.intCast_neg,<-hz,iN];grind
 ·rw[Lb,i,<-hz,jB,bK (bT D)];have o:bO (Q.hd p)*bO (1/Q.hd p)=1:=by rw[<-jB,l];exact sU
  have:bO (Q.hd p)*(D:Rat)*bO (1/Q.hd p)=(bO (Q.hd p)*bO (1/Q.hd p))*(D:Rat):=gR;rw[this,o,Rat.one_mul];exact Rat.le_refl
def PM (e:Ex) (h:e.nat=true):MP:=⟨[(e,1)],Cc h (by decide)⟩
theorem GX(e:Ex)(h:e.nat=true):qW 1 1 (PM e h):=by refine⟨λt b=>by rw[List.mem_singleton.1 b];exact Dv.int 1 1,?_⟩;show((1:Nat):Rat)*(bO 1+0)<=((1:Nat):Rat);rw[sU,Rat.add_zero,Rat.mul_one];exact Rat.le_refl
theorem YU{e:Ex}(h:e.nat=true){r:Rat}(b:r≠0)(hv:aY [(e,r)]):(⟨[(e,r)],hv⟩:MP)=c r*PM e h:=by refine MP.eq_of ?_;rw[wH];show [(e,r)]=bY [(e,1)] r;rw[bY,if_neg b];show [(e,r)]=[(e,1*r)];rw[Rat.one_mul]
theorem PN{v d W b0 bz:Nat}{z:MP}{g:ai}{ts:List ai}(E:z.l=g::ts)(j:∀t∈z.l,(∀w,w<v->t.1.get w<=d)/\∀w,v<w->w<4->t.1.get w=0)(hz:In bz z){dB:Nat->Nat}(hB:∀e:Ex,e.nat=true->wt ((d:Int)+1) e<=W->(∀w,v<w->w<4->e.get w=0)->NW dB e)(I:bx dB<=10000)(a8:b0+bz+(bx dB+1)*(bz+1)<LB) :
  ∀(n:Nat)(a:MP)(out:List ai)(S:List Ex),S.Nodup->(∀e∈S,NW dB e)->(∀e∈S,∀t∈a.l,e.gt t.1=true)->(∀t∈a.l,wt ((d:Int)+1) t.1<=W/\∀w,v<w->w<4->t.1.get w=0)->In (b0+S.length*(bz+1)) a->bx dB+1<=n+S.length->∃r,sO (g::ts) g n a.l out=some r
 | 0,a,out,S,hS,hSb,_,_,_,hn=>by have:=Ja hS hSb;omega
 | n+1,a,out,S,hS,hSb,hSg,ha,hi,hn=>by
  have z0:z≠0:=λh=>by have:=zero_iff.1 h;rw[E]at this;cases this
  have o:g.2≠0:=(z.v.2 g (by rw[E];simp)).1;have q:g∈z.l:=by rw[E];simp
  cases ea:a.l with
  | nil=>exact⟨_,by rw[sO]⟩
  | cons m a' =>
   have k:m∈a.l:=by rw[ea];simp
   have a0:a≠0:=λh=>by have:=zero_iff.1 h;rw[ea]at this;cases this
   have hm:=ha m k;have Z:=(a.v.2 m k).2;have Y:=hB m.1 Z hm.1 hm.2;have N:(m.1::S).Nodup:=List.nodup_cons.2 ⟨λh=>(by have:=hSg _ h m k;rw[Ex.gt_irrefl]at this;cases this),hS⟩
   have C:∀e∈m.1::S,NW dB e:=λe he=>by
    rcases List.mem_cons.1 he with rfl|he
    ·exact Y
    ·exact hSb e he
   have X:=Ja N C;rw[List.length_cons]at X;have a1:=Nat.mul_le_mul_right (bz+1) (oM:S.length+1<=bx dB+1);rw[Nat.add_mul S.length,Nat.one_mul]at a1;have a3:=uD (PK λt F=>hB t.1 (a.v.2 t F).2 (ha t F).1 (ha t F).2) hi I oM;rw[ea]at a3;rw[sO,if_pos a3];by_cases hq:(m.1.sub g.1).nat=true
   ·rw[if_pos hq];have va:aY (m::a'):=ea▸a.v;have i:=La va o hq;have a9:m.2≠0:=(a.v.2 m k).1;have a4:hd z=g.2:=BA E;have a5:hd a=m.2:=BA ea
    have R:(1:Rat)/g.2≠0:=λh=>by have:=I8 z0;rw[a4,h]at this;grind
    have M:m.2/g.2=m.2*(1/g.2):=by
     have b:=Rat.div_mul_cancel (a:=1) o;have B:=Rat.div_mul_cancel (a:=m.2) o;have G:(m.2/g.2 - m.2*(1/g.2))*g.2=0:=gR;rcases Rat.mul_eq_zero.1 G with h|h
     ·grind
     ·exact absurd h o
    have et:(⟨[ik m g],i⟩:MP)=c (hd a)*(c (1/hd z)*PM _ hq):=by
     have a2:aY [(m.1.sub g.1,m.2*(1/g.2))]:=by rw[<-M];exact i
     have:=YU hq (jr a9 R) a2;rw[a4,a5];have e2:c (m.2*(1/g.2))=c m.2*c (1/g.2):=(lC _ _).symm;rw[e2]at this;have e3:(⟨[ik m g],i⟩:MP)=⟨[(m.1.sub g.1,m.2*(1/g.2))],a2⟩:=MP.eq_of (congrArg (λx=>[(m.1.sub g.1,x)]) M);rw[e3,this];grind
    have a7:In (b0+S.length*(bz+1)+(bz+0)) (⟨[ik m g],i⟩:MP):=by rw[et];exact(hi.hd a0).mul ((hz.inv z0).mul ⟨1,1,oM,nL _,nL _,GX _ hq⟩)
    have aa:=uD (d:=dB) (p:=(⟨[ik m g],i⟩:MP)) (PK λt F=>by
     rw[List.mem_singleton.1 F];refine⟨hq,λw hw=>?_⟩;have b:=Y.2 w hw;have B:=Ex.nat_get (z.v.2 g q).2 w;show(m.1.sub g.1).get w<=_
     have G:(m.1.sub g.1).get w=m.1.get w-g.1.get w:=by rcases w with _|_|_|w<;>rfl
     omega) a7 I oM
    rw[if_pos aa];obtain⟨t,F⟩:∃t:MP,t=⟨[ik m g],i⟩:=⟨_,rfl⟩
    have e2:dL (m::a') (aO (g::ts) [ik m g])=(a-z*t).l:=by rw[F,<-ea,<-E];rfl
    have e3:(a-z*t).l=canon (YN a' ts (ik m g)):=by rw[<-e2];exact YO Z o
    rw[e2]
    have hP:∀u∈(a-z*t).l,m.1.gt u.1=true/\wt ((d:Int)+1) u.1<=W/\∀w,v<w->w<4->u.1.get w=0:=by
     rw[e3];refine gY (P:=λe=>m.1.gt e=true/\wt ((d:Int)+1) e<=W/\∀w,v<w->w<4->e.get w=0) λu hu=>?_;rcases List.mem_append.1 hu with hu|hu
     ·exact⟨va.1.head u hu,ha u (by rw[ea];simp[hu])⟩
     ·obtain⟨s,hs,rfl⟩:=List.mem_map.1 hu;have y:s∈z.l:=by rw[E];simp[hs]
      have O:g.1.gt s.1=true:=(E▸z.v:aY (g::ts)).1.head s hs;have b:=O
      have B:m.1=(m.1.sub g.1).add g.1:=by simp only[Ex.add,Ex.sub];refine Ex.ext' ?_ ?_ ?_ ?_<;>simp only<;>omega
      have G:(s.1.add (m.1.sub g.1))=(m.1.sub g.1).add s.1:=Ex.add_comm _ _;refine⟨?_,?_,λw b J=>?_⟩
      ·show m.1.gt (s.1.add (m.1.sub g.1))=true;rw[G];rw[<-Ex.gt_add (m.1.sub g.1),<-B]at b;exact b
      ·show wt _ (s.1.add (m.1.sub g.1))<=_;have h5:=Z8 (z.v.2 g q).2 (z.v.2 s y).2 (j s y).1 (λw b B=>⟨(j s y).2 w b B,(j g q).2 w b B⟩) O;rw[YR,YS];have:=hm.1;omega
      ·show(s.1.add (m.1.sub g.1)).get w=0;have h6:=(j s y).2 w b J;have h7:=(j g q).2 w b J;have h8:=hm.2 w b J
       have h9:(m.1.sub g.1).get w=m.1.get w-g.1.get w:=by rcases w with _|_|_|w<;>rfl
       rw[Ex.get_add];omega
    have a6:In (b0+(m.1::S).length*(bz+1)) (a-z*t):=by
     obtain⟨D,H,b,B,G,J⟩:=hi;obtain⟨L,K,k1,k2,k3,k4⟩:=hz.nrm;have e4:z*t=c (hd a)*(PM _ hq*nrm z):=by rw[F,et,nrm];grind
     have i1:=(J.hd a0).mul ((GX _ hq).mul k4);rw[Nat.one_mul,Nat.one_mul,<-e4]at i1;have i2:=(J.up L).sub i1
     have ab:2^(b0+(m.1::S).length*(bz+1))=2^(b0+S.length*(bz+1))*2^bz*2:=by rw[List.length_cons,Nat.add_mul,Nat.one_mul,<-Nat.add_assoc,<-Nat.add_assoc,Nat.pow_succ,Nat.pow_add]
     have p1:=Nat.mul_le_mul B k2;have p2:=Nat.mul_le_mul G k2;have p3:=Nat.mul_le_mul G k3;exact⟨D*L,H*L+H*K,Nat.mul_pos b k1,oM,oM,i2⟩
    exact PN E j hz hB I a8 n (a-z*t) (out++[ik m g]) (m.1::S) N C (λe he u hu=>by
     rcases List.mem_cons.1 he with rfl|he
     ·exact(hP u hu).1
     ·exact Ex.gt_trans (hSg e he m k) (hP u hu).1) (λu hu=>(hP u hu).2) a6 (by rw[List.length_cons];omega)
   ·rw[if_neg hq];exact⟨_,rfl⟩
theorem WR{v d M b0 bz:Nat}{a z:MP}(hv:v<4)(D:z≠0)(ha:∀w,w<v->a.deg w<=d)(o:a.deg v<=M)(hz:∀w,w<v->z.deg w<=d)(la:a.lo (v+1))(C:z.lo (v+1))(y:In b0 a)(B:In bz z)
  (q:bx (WQ v d (UM v d M))<=10000) (s:b0+bz+(bx (WQ v d (UM v d M))+1)*(bz+1)<LB):∃r,yO a.l z.l=some r:=by
 obtain⟨g,ts,u⟩:=jR D;have hd:∀(p:MP)(w:Nat)(k:Int),p.deg w<=k->∀t∈p.l,t.1.get w<=k:=λp w k h t b=>Int.le_trans (fw b w) h
 obtain⟨r,x⟩:=PN (v:=v) (d:=d) (W:=UM v d M) (b0:=b0) (dB:=WQ v d (UM v d M)) u (λt b=>⟨λw i=>hd z w d (hz w i) t b,λw m n=>fr_get (C w m n) b⟩) B
  (λe he i h=>YT he i h) q s fuel a [] [] List.nodup_nil (λe h=>by cases h) (λe h=>by cases h)
  (λt b=>by
   have j:∀w,v<w->w<4->t.1.get w=0:=λw m n=>fr_get (la w m n) b
   exact⟨Z9 hv (λw i=>hd a w d (ha w i) t b) (hd a v M o t b) j,j⟩)
  (by simpa using y) (by unfold fuel;simp only[List.length_nil];omega)
 exact⟨r,by rw[u];exact x⟩
def jk (v x t:Nat) (w:Nat):Nat:=if w<v then x else if w=v then t else 0
theorem Jd{v x t:Nat}(hv:v<4):bx (jk v x t)=(t+1)*(x+1)^v:=by
 obtain rfl|rfl|rfl|rfl:v=0\/v=1\/v=2\/v=3:=oM
 ·simp[bx,jk]
 ·simp[bx,jk,Nat.mul_comm]
 ·simp[bx,jk,Nat.pow_succ,Nat.mul_comm]
 ·simp[bx,jk,Nat.pow_succ,Nat.mul_comm]
theorem NZ{v x t:Nat}{p:MP}(j:p.lo (v+1))(i:∀w,w<v->p.deg w<=x)(b:p.deg v<=t):Dg (jk v x t) p:=λw d=>by
 unfold jk;split
 ·exact i w aM
 ·split
  ·rename_i e;rw[e];exact b
  ·have h:p.deg w<=0:=j w oM d;exact h
theorem Dg.lo{v x t:Nat}{p:MP}(h:Dg (jk v x t) p):p.lo (v+1):=λw d b=>by have:=h w b;rw[jk,if_neg oM,if_neg oM]at this;exact this
theorem Dg.lo0{v x:Nat}{p:MP}(h:Dg (jk v x 0) p):p.lo v:=λw d b=>by
 have:=h w b;rw[jk,if_neg oM]at this;have e:(if w=v then 0 else 0)=0:=by split<;>rfl
 rw[e]at this;exact this
theorem Dg.low{v x t:Nat}(hv:v<4){p:MP}(h:Dg (jk v x t) p):∀w,w<v->p.deg w<=x:=λw b=>by have:=h w oM;rwa[jk,if_pos b]at this
theorem Dg.top{v x t:Nat}(hv:v<4){p:MP}(h:Dg (jk v x t) p):p.deg v<=t:=by have:=h v hv;rwa[jk,if_neg oM,if_pos rfl]at this
def gV (D H:Nat) (d:Nat->Nat) (l:List ai):Prop:=∃p:MP,p.l=l/\qW D H p/\Dg d p
theorem gV.nil(D H:Nat)(d:Nat->Nat):gV D H d []:=⟨0,rfl,qW.zero D H,λw _=>by rw[deg_zero];omega⟩
theorem gV.get{D H:Nat}{d:Nat->Nat}{L:List (List ai)}(h:∀c∈L,gV D H d c)(i:Nat):gV D H d (L.getD i []):=by
 rw[jD]
 cases hi:L[i]? with
 | none=>exact gV.nil D H d
 | some c=>exact h c (List.mem_of_getElem? hi)
theorem gV.mul{D H e i:Nat}{d d':Nat->Nat}{p q:List ai}(h:gV D H d p)(k:gV e i d' q):gV (D*e) (H*i) (λw=>d w+d' w) (aO p q):=by obtain⟨a,rfl,l,m⟩:=h;obtain⟨b,rfl,n,o⟩:=k;exact⟨a*b,rfl,l.mul n,λw j=>Int.le_trans (di w a b (m w j) (o w j) oM) sM⟩
theorem gV.sub{D H e:Nat}{d:Nat->Nat}{p q:List ai}(h:gV D H d p)(j:gV D e d q):gV D (H+e) d (dL p q):=by obtain⟨a,rfl,k,l⟩:=h;obtain⟨b,rfl,m,n⟩:=j;exact⟨a - b,rfl,k.sub m,λw i=>by have:=qC w a b;have:=l w i;have:=n w i;omega⟩
theorem gV.mono{D H b:Nat}{d:Nat->Nat}{p:List ai}(h:gV D H d p)(k:H<=b):gV D b d p:=by obtain⟨a,e,i,j⟩:=h;exact⟨a,e,i.mono k,j⟩
theorem N7{D R:List (List ai)}{k d j b:Nat}{m l:Nat->Nat}(e:∀c∈D,gV j b l c)(h:∀c∈R,gV k d m c):∀c∈gm D R,gV (k*j) (d*b+d*b) (λw=>m w+l w) c:=λc hc=>by
 simp only[gm,List.mem_map]at hc;obtain⟨i,-,rfl⟩:=hc;split
 ·exact((gV.get h _).mul (gV.get e _)).sub ((gV.get h _).mul (gV.get e _))
 ·exact((gV.get h _).mul (gV.get e _)).mono oM
theorem GY{D:List (List ai)}{Da Ha d b s:Nat}{da e:Nat->Nat}(h:∀c∈D,gV d b e c)
  (k:∀j,j<=s->∀c,gV (Da*d^j) (Ha*(2*b)^j) (λw=>da w+j*e w) c->BP c=true) :
  ∀(f j:Nat)(R:List (List ai)),R.length+j<=s+(D.length-1)\/R.length<=D.length-1->j<=s->(∀c∈R,gV (Da*d^j) (Ha*(2*b)^j) (λw=>da w+j*e w) c) ->
   Nq D f R=true/\∃i,i<=s/\∀c∈gL D f R,gV (Da*d^i) (Ha*(2*b)^i) (λw=>da w+i*e w) c
 | 0,j,R,_,hj,hR=>⟨rfl,j,hj,hR⟩
 | f+1,j,R,hl,hj,hR=>by
  unfold Nq gL;split
  ·rename_i o;have m:=N7 h hR
   have n:∀c∈gm D R,gV (Da*d^(j+1)) (Ha*(2*b)^(j+1)) (λw=>da w+(j+1)*e w) c:=λc hc=>by
    have:=m c hc;have e1:Da*d^j*d=Da*d^(j+1):=by rw[Nat.pow_succ,Nat.mul_assoc]
    have e2:Ha*(2*b)^j*b+Ha*(2*b)^j*b=Ha*(2*b)^(j+1):=by rw[Nat.pow_succ,<-Nat.mul_two,Nat.mul_assoc,Nat.mul_assoc,Nat.mul_comm b 2]
    have l:(λw=>da w+j*e w+e w)=λw=>da w+(j+1)*e w:=funext λw=>by rw[Nat.add_mul,Nat.one_mul,Nat.add_assoc]
    rw[e1,e2,l]at this;exact this
   obtain⟨p,q⟩:=GY h k f (j+1) (gm D R) (by rw[iZ];omega) oM n;refine⟨?_,q⟩;rw[Bool.and_eq_true,List.all_eq_true];exact⟨λc hc=>k j hj c (hR c hc),p⟩
  ·exact⟨rfl,j,hj,hR⟩
theorem N8(p:List ai)(v:Nat)(i:Int):bL (iw p v i)=bL p:=by
 unfold iw
 induction p with
 | nil=>rfl
 | cons u l b=>simp only[List.map_cons,bL,b]
theorem ES{v D H:Nat}{d:Nat->Nat}(hv:v<4)(j:d v=0):∀(L:List (List ai))(i:Nat),(∀c∈L,gV D H d c) ->
  (∀t∈fromL v i L,(t.1.nat=true/\(∀w,w<4->w≠v->t.1.get w<=d w)/\t.1.get v<=((i+L.length:Nat):Int))/\Dv D t.2)/\(D:Rat)*bL (fromL v i L)<=((L.length*H:Nat):Rat)/\(fromL v i L).length<=L.length*bx d
 | [],i,_=>⟨λt b=>(by cases b),by
   show(D:Rat)*0<=((0*H:Nat):Rat)
   rw[Rat.mul_zero];exact bT _,by simp[fromL]⟩
 | c::L,i,h=>by
  obtain⟨p,rfl,n,o⟩:=h c sM;obtain⟨s,B,C⟩:=ES hv j L (i+1) λc hc=>h c (by simp[hc])
  have e:fromL v (i:Int) (p.l::L)=iw p.l v i++fromL v ((i+1:Nat):Int) L:=by rw[fromL];rfl
  rw[e];refine⟨λt b=>?_,?_,?_⟩
  ·rcases List.mem_append.1 b with b|b
   ·obtain⟨u,hu,rfl⟩:=List.mem_map.1 b;obtain⟨n1,n2⟩:=o.inB u hu;have m:u.1.get v=0:=by have:=n2 v hv;have:=Ex.nat_get n1 v;omega
    refine⟨⟨Ex.put_nat n1 v oM,λw q k=>?_,?_⟩,n.d u hu⟩
    ·show(u.1.put v _).get w<=_;rw[Ex.get_put_ne _ hv q (Ne.symm k)];exact n2 w q
    ·show(u.1.put v (u.1.get v+i)).get v<=_;rw[Ex.get_put,m];simp only[List.length_cons];omega
   ·obtain⟨⟨m1,x,E⟩,y⟩:=s t b;exact⟨⟨m1,x,by simp only[List.length_cons];omega⟩,y⟩
  ·rw[qY,N8,Rat.mul_add,List.length_cons,Nat.add_mul,Nat.one_mul,Rat.natCast_add];have:=n.a;have r:(D:Rat)*p.am=(D:Rat)*bL p.l:=rfl;rw[r]at this;grind
  ·have z:=o.len;rw[List.length_append,List.length_cons,Nat.add_mul,Nat.one_mul];have:(iw p.l v i).length=p.l.length:=by unfold iw;rw[List.length_map]
   omega
theorem ET{x a j:Nat}(h:x<=2^a):x^j<=2^(a*j):=by rw[Nat.pow_mul];exact Nat.pow_le_pow_left h j
theorem Rn{v A al M s lM:Nat}{a b:MP}(hv:v<4)(b0:b≠0)(la:a.lo (v+1))(lb:b.lo (v+1))(ha:∀w,w<v->a.deg w<=A)(hb:∀w,w<v->b.deg w<=A)(ia:In al a)(ib:In al b)
  (hs:a.deg v+1<=b.deg v+s) (hM:b.deg v<=M) (hlM:M<=2^lM) (Z:(M+1)*((s+1)*A+1)^v<=10000) (L:(s+1)*(al+1)+lM<LB) :
  Vx a.l b.l v=some (nu v a b).l/\In ((s+1)*(al+1)+lM) (nu v a b)/\(∀w,w<v->(nu v a b).deg w<=((s+1)*A:Nat))/\(nu v a b).deg v<=M/\(nu v a b).lo (v+1):=by
 obtain⟨Da,Ha,a1,a2,a3,a4⟩:=ia;obtain⟨E,F,b1,b2,b3,b4⟩:=ib
 have hrow:∀(p:MP)(D H:Nat),p.lo (v+1)->(∀w,w<v->p.deg w<=A)->qW D H p->∀c∈aB p.l v,gV D H (jk v A 0) c:=λp D H lp hp z c hc=>by
  obtain⟨n,rfl⟩:=gQ hc;refine⟨p.co v n,rfl,z.co v n,λw G=>?_⟩;unfold jk;split
  ·exact wm v n p G hv (hp w aM)
  ·have S:(p.co v n).deg w<=0:=JQ hv lp w oM G;omega
 have a0:=deg_pos b0 v;have lD:(aB b.l v).length=(b.deg v).toNat+1:=by rw[bv];have e:aH b.l v=b.deg v:=rfl;omega
 have lR:((aB a.l v).length:Int)<=a.deg v+1:=by rw[bv];have e:aH a.l v=a.deg v:=rfl;have:=deg_ge v a;omega
 have k:bx (jk v ((s+1)*A) M)<=10000:=by rw[Jd hv];exact Z
 have I:∀j,j<=s->∀w,jk v A 0 w+j*jk v A 0 w<=jk v ((s+1)*A) M w:=λj B w=>by
  unfold jk;split
  ·have:=Nat.mul_le_mul_right A B;rw[Nat.add_mul];omega
  ·split<;>simp
 have q:∀j,j<=s->Da*E^j<=2^((s+1)*(al+1))/\Ha*(2*F)^j<=2^((s+1)*(al+1)):=λj B=>by
  have p1:=ET (j:=j) b2;have p2:(2*F)^j<=2^((al+1)*j):=ET (by rw[Nat.pow_succ];omega);have q1:=Nat.mul_le_mul a2 p1;have q2:=Nat.mul_le_mul a3 p2;rw[<-Nat.pow_add]at q1 q2;have r0:=Nat.mul_le_mul_left (al+1) B;have r1:al*j<=(al+1)*j:=Nat.mul_le_mul_right _ oM;have r2:(s+1)*(al+1)=(al+1)*s+(al+1):=by rw[Nat.mul_comm,Nat.mul_add,nU]
  exact⟨Nat.le_trans q1 (Nat.pow_le_pow_right oM oM),Nat.le_trans q2 (Nat.pow_le_pow_right oM oM)⟩
 have hpos:∀j,0<Da*E^j:=λj=>Nat.mul_pos a1 (Nat.pow_pos b1)
 have N:∀j,j<=s->∀c,gV (Da*E^j) (Ha*(2*F)^j) (λw=>jk v A 0 w+j*jk v A 0 w) c->BP c=true:=λj B c hc=>by obtain⟨p,rfl,S,h2⟩:=hc;exact uD (h2.mono (I j B)) ⟨_,_,hpos j,(q j B).1,(q j B).2,S⟩ k oM
 obtain⟨k1,i,z,k2⟩:=GY (Da:=Da) (Ha:=Ha) (da:=jk v A 0) (hrow b E F lb hb b4) N (aB a.l v).length 0 (aB a.l v)
  (by rw[lD];omega) oM (λc hc=>by
   have:=hrow a Da Ha la ha a4 c hc;have e3:(λw=>jk v A 0 w+0*jk v A 0 w)=jk v A 0:=funext λw=>by rw[Nat.zero_mul,Nat.add_zero]
   rw[Nat.pow_zero,Nat.pow_zero,nU,nU,e3];exact this)
 have y:=Av (aB b.l v) (aB a.l v).length (aB a.l v) oM;obtain⟨R,W⟩:∃R,R=gL (aB b.l v) (aB a.l v).length (aB a.l v):=⟨_,rfl⟩;rw[<-W]at k2 y;have X:R.length<=M:=by rw[lD]at y;omega
 have J:jk v A 0 v+i*jk v A 0 v=0:=by simp[jk]
 obtain⟨f1,f2,f3⟩:=ES hv (d:=λw=>jk v A 0 w+i*jk v A 0 w) J R 0 k2
 have hL:R.length*(Ha*(2*F)^i)<=2^((s+1)*(al+1)+lM):=by rw[Nat.add_comm,Nat.pow_add];exact Nat.mul_le_mul oM (q i z).2
 have hD:Da*E^i<=2^((s+1)*(al+1)+lM):=Nat.le_trans (q i z).1 (Nat.pow_le_pow_right oM oM)
 have u:∀t∈fromL v ((0:Nat):Int) R,NW (jk v ((s+1)*A) M) t.1:=λt m=>by
  obtain⟨⟨m1,m2,m3⟩,-⟩:=f1 t m;refine⟨m1,λw G=>?_⟩;by_cases O:w=v
  ·subst O;rw[jk,if_neg oM,if_pos rfl];omega
  ·have h6:t.1.get w<=((jk v A 0 w+i*jk v A 0 w:Nat):Int):=m2 w G O;have h7:=I i z w;omega
 have C:(fromL v ((0:Nat):Int) R).length<=10000:=by
  have S:bx (λw=>jk v A 0 w+i*jk v A 0 w)<=((s+1)*A+1)^v:=by
   have e:(λw=>jk v A 0 w+i*jk v A 0 w)=jk v (A+i*A) 0:=funext λw=>by
    unfold jk;split
    ·rfl
    ·split<;>simp
   rw[e,Jd hv,Nat.one_mul];exact Nat.pow_le_pow_left (by have:=Nat.mul_le_mul_right A z;rw[Nat.add_mul s 1 A];omega) v
  have h2:=Nat.mul_le_mul X S;have h3:(M+1)*((s+1)*A+1)^v=M*((s+1)*A+1)^v+((s+1)*A+1)^v:=by rw[Nat.add_mul,Nat.one_mul]
  omega
 have Y:=UL (b:=(s+1)*(al+1)+lM) u k C (hpos i) hD hL (λt m=>(f1 t m).2) f2 L;have r:(nu v a b).l=canon (fromL v ((0:Nat):Int) R):=by rw[W];rfl
 have K:qW (Da*E^i) (R.length*(Ha*(2*F)^i)) (nu v a b):=by
  refine⟨λt m=>?_,?_⟩
  ·rw[r]at m;exact yU (λt m=>(f1 t m).2) t m
  ·refine Rat.le_trans (Rat.mul_le_mul_of_nonneg_left ?_ (bT _)) f2;show bL (nu v a b).l<=_;rw[r];exact qN _
 have o:Dg (jk v ((s+1)*A) M) (nu v a b):=PK λt m=>by rw[r]at m;exact gY (P:=NW (jk v ((s+1)*A) M)) u t m
 have x:In ((s+1)*(al+1)+lM) (nu v a b):=⟨_,_,hpos i,hD,hL,K⟩;refine⟨?_,x,o.low hv,o.top hv,o.lo⟩;have G:=uD o x k L;unfold Vx;simp only;rw[<-W,if_pos ⟨λh=>b0 (zero_iff.2 h),k1,Y,List.all_eq_true.2 λc hc=>N i z c (k2 c hc)⟩];have:=PL G;rw[r]at this ⊢;exact this
theorem zt{v:Nat}(hv:v<4){z k f:MP}(o:z.lo (v+1))(pz:z.prim v)(l:k.lo v)(k0:k≠0)(h:z∣k*f):z∣f:=by
 have key:∀n:Nat,v+1+n<=4->∀f:MP,f.lo (v+1+n)->z∣k*f->z∣f:=λn=>by
  induction n with
  | zero=>intro _ f j h;exact iL (zY v oM) hv j pz l k0 h
  | succ n m =>
   intro p f j h;have b:z.fr (v+1+n):=o _ oM oM;have d:k.fr (v+1+n):=l _ oM oM;refine(dvd_iff_co b f).2 λi=>m oM _ (JQ oM j) ?_;have:=(dvd_iff_co b (k*f)).1 h i;rwa[co_mul_fr d]at this
 have e:v+1+(3-v)=4:=oM;exact key (3-v) oM f (by rw[e];exact Y7 f) h
theorem N9{u U v R d la xi H X b l2:Nat}(hu:1<=u)(j:u<=U)(y:0<R)(r:H<=2^b)(n:2*U*R^v<=2^l2)(i:la=l2+b)(B:X=2^xi-1)
  (hc:(la+xi)*((U-1)*(R+d)^v)<xi*(U*R^v)) :
  (2*(u*R^v*(X*H))+1)^((u-1)*(R+d)^v)<(X+1)^(u*R^v)/\u*R^v*(X*H)<=2^(la+xi):=by
 have s:0<2^xi:=Nat.pow_pos oM;have h:X+1=2^xi:=oM
 have o:2*(u*R^v)*H<=2^la:=by rw[i,Nat.pow_add];refine Nat.mul_le_mul (Nat.le_trans ?_ n) r;rw[Nat.mul_assoc 2 U];exact Nat.mul_le_mul_left 2 (Nat.mul_le_mul_right _ j)
 have p:2*(u*R^v*(X*H))+1<=2^(la+xi):=by
  have e1:2*(u*R^v*(X*H))=2*(u*R^v)*H*X:=by rw[Nat.mul_comm X H,<-Nat.mul_assoc,<-Nat.mul_assoc,<-Nat.mul_assoc]
  have k:=Nat.mul_le_mul_right X o;have l:2^la*X+2^la=2^(la+xi):=by rw[Nat.pow_add,<-h,Nat.mul_add,nU]
  have q:0<2^la:=Nat.pow_pos oM;rw[e1];omega
 refine⟨?_,oM⟩
 have k:(2*(u*R^v*(X*H))+1)^((u-1)*(R+d)^v)<=2^((la+xi)*((u-1)*(R+d)^v)):=by have e:2^((la+xi)*((u-1)*(R+d)^v))=(2^(la+xi))^((u-1)*(R+d)^v):=Nat.pow_mul ..;rw[e];exact Nat.pow_le_pow_left p _
 refine Nat.lt_of_le_of_lt k ?_;rw[h,<-Nat.pow_mul];refine Nat.pow_lt_pow_right oM ?_
 have l:(u-1)*U<=u*(U-1):=by rw[Nat.sub_mul,Nat.mul_sub,Nat.one_mul,nU];omega
 have z:0<U:=oM;refine Nat.lt_of_mul_lt_mul_right (a:=U) ?_
 have q:(la+xi)*((u-1)*(R+d)^v)*U<=u*((la+xi)*((U-1)*(R+d)^v)):=by
  have e1:(la+xi)*((u-1)*(R+d)^v)*U=(la+xi)*(R+d)^v*((u-1)*U):=by simp only[Nat.mul_comm,Nat.mul_left_comm,Nat.mul_assoc]
  have e2:u*((la+xi)*((U-1)*(R+d)^v))=(la+xi)*(R+d)^v*(u*(U-1)):=by simp only[Nat.mul_comm,Nat.mul_left_comm,Nat.mul_assoc]
  rw[e1,e2];exact Nat.mul_le_mul_left _ l
 have x:u*((la+xi)*((U-1)*(R+d)^v))<u*(xi*(U*R^v)):=Nat.mul_lt_mul_of_pos_left hc hu;have m:u*(xi*(U*R^v))=xi*(u*R^v)*U:=by simp only[Nat.mul_comm,Nat.mul_left_comm,Nat.mul_assoc]
 rw[<-m];omega
theorem LP{v M d b R la xi l2 kap U:Nat}(hv:v<4){p q x y z k t e:MP}(h:Sq v p q x y)(y0:y≠0)(k0:k≠0)(kf:k.lo v)(e0:e≠0)(ef:e.fr v)(H:k*x=t*y+e*z)(F:z.deg v<y.deg v)(z0:z≠0)(pz:z.prim v)(lz:z.lo (v+1))
  (Z:p≠0) (q0:q≠0) (lp:p.lo (v+1)) (lq:q.lo (v+1)) (hp:∀w,w<v->p.deg w<=d) (hq:∀w,w<v->q.deg w<=d) (ip:In b p) (iq:In b q) (hm:p.deg v<=M) (hn:q.deg v<=M) (a5:y.deg v<=p.deg v) (a6:y.deg v<=q.deg v)
  (hU:2*(M:Int)+2<=U+2*y.deg v) (hR:0<R) (h2:2*U*R^v<=2^l2) (W:la=l2+b) (hc:(la+xi)*((U-1)*(R+d)^v)<xi*(U*R^v)) (hk:vK (jk v (R-1+d) M) (v+1)<=2^kap) :
  (∀w,w<v->z.deg w<=((U*d:Nat):Int))/\In (la+xi+kap) (nrm z):=by
 have a7:=deg_pos z0 v;obtain⟨m,em⟩:∃m:Nat,p.deg v=m:=⟨(p.deg v).toNat,oM⟩;obtain⟨n,en⟩:∃n:Nat,q.deg v=n:=⟨(q.deg v).toNat,oM⟩;obtain⟨K,eK⟩:∃K:Nat,y.deg v=(K:Int)+1:=⟨(y.deg v).toNat - 1,oM⟩;have hu:1<=m+n - 2*K:=oM;have I:m+n - 2*K<=U:=oM;refine⟨λw C=>?_,?_⟩
 ·obtain⟨S,T,B,hS,r,u⟩:=MZ (v:=v) (w:=w) hv oM oM (m:=m) (n:=n) (k:=K) oM oM oM oM (hp w C) (hq w C);obtain⟨f0,c',c0,J,hd⟩:=h.dvd hv y0 k0 kf e0 ef H F z0 (f:=S*p+T*q) (K:=(K:Int)) rfl r (.inr oM) B oM oM;have h3:=dvd_deg f0 (zt hv lz pz J c0 hd) w;have h4:(m+n - 2*K)*d<=U*d:=Nat.mul_le_mul_right _ I;omega
 ·obtain⟨j,Hp,a1,a2,a3,a4⟩:=ip;obtain⟨Dq,Hq,b1,b2,b3,b4⟩:=iq;have l:(j:Rat)≠0:=jG a1;have o:(Dq:Rat)≠0:=jG b1
  have L:(c (j:Rat)*p).am<=((2^b:Nat):Rat):=by rw[oh,bK (bT _)];exact Rat.le_trans a4.a (zl a3)
  have N:(c (Dq:Rat)*q).am<=((2^b:Nat):Rat):=by rw[oh,bK (bT _)];exact Rat.le_trans b4.a (zl b3)
  obtain⟨X,hX⟩:∃X,X=2^xi - 1:=⟨_,rfl⟩;obtain⟨n1,n2⟩:=N9 (d:=d) hu I hR (nL (2^b)) h2 W hX hc;have lP:(c (j:Rat)*p).lo (v+1):=jW Z (EP l p).1 lp;have lQ:(c (Dq:Rat)*q).lo (v+1):=jW q0 (EP o q).1 lq
  obtain⟨S,T,B,hS,r,u,E,D,s⟩:=Le hv lP lQ (qO a4.d) (qO b4.d) (m:=m) (n:=n) (k:=K) (d:=d) (by rw[sZ l Z];omega) (by rw[sZ o q0];omega) oM oM
   (λw C=>by rw[sZ l Z];exact hp w C) (λw C=>by rw[sZ o q0];exact hq w C) L N hR n1
  have i:S*(c (j:Rat)*p)+T*(c (Dq:Rat)*q)=(S*c (j:Rat))*p+(T*c (Dq:Rat))*q:=gR
  have a0:(S*c (j:Rat)).deg v<=S.deg v:=by have h5:(c (j:Rat)).deg v<=0:=qf _ v;have:=di v S (c (j:Rat)) (Int.le_refl _) h5 (by have:=deg_ge v S;omega);omega
  have G:S*c (j:Rat)≠0\/T*c (Dq:Rat)≠0:=B.imp (λh=>mul_ne h (vJ l)) λh=>mul_ne h (vJ o);obtain⟨f,hf⟩:∃f,f=S*(c (j:Rat)*p)+T*(c (Dq:Rat)*q):=⟨_,rfl⟩;rw[<-hf]at r u E D s i;obtain⟨f0,c',c0,J,hd⟩:=h.dvd hv y0 k0 kf e0 ef H F z0 (f:=f) (K:=(K:Int)) i r (.inr oM) G oM oM;have Y:=zt hv lz pz J c0 hd
  have O:In (la+xi) f:=by refine⟨1,_,oM,Nat.one_le_two_pow,n2,E,?_⟩;rw[show((1:Nat):Rat)=1 from rfl,Rat.one_mul];exact D
  exact O.fac (n:=v+1) oM f0 Y s (NZ s u oM) hk
end Q
end
