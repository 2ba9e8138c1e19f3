/- Greatest common divisors of polynomials exist (Gauss). No program in sight. -/
import Derived.Test.YtopclbeomcggiaaGreatW01
set_option linter.unusedVariables false
set_option linter.unusedSimpArgs false
set_option maxHeartbeats 16000000
set_option maxRecDepth 100000
section
namespace Q
namespace MP
structure lK (g a b:MP):Prop where
 l:g∣a
 r:g∣b
 u:∀d,d∣a->d∣b->d∣g
def lo (n:Nat) (p:MP):Prop:=∀w,n<=w->w<4->p.fr w
theorem YT(p:MP):p.lo 4:=λw h b=>oM
theorem lo.mono{m n:Nat}(h:m<=n){p:MP}(hp:p.lo m):p.lo n:=λw d b=>hp w oM b
theorem oJ(v:Nat):(0:MP).fr v:=by show(-1:Int)<=0;omega
theorem MN(n:Nat):(0:MP).lo n:=λw _ _=>oJ w
theorem vS{a b:MP}{v:Nat}(ha:a.fr v)(hb:b.fr v):(a*b).fr v:=by
 by_cases d:a=0
 ·have:a*b=0:=gR;rw[this];exact oJ v
 ·by_cases e:b=0
  ·have:a*b=0:=gR;rw[this];exact oJ v
  ·show(a*b).deg v<=0;rw[deg_mul d e];have h:a.deg v<=0:=ha;have i:b.deg v<=0:=hb;omega
theorem kZ{n:Nat}{a b:MP}(ha:a.lo n)(hb:b.lo n):(a*b).lo n:=λw d e=>vS (ha w d e) (hb w d e)
theorem rW{a b:MP}{v:Nat}(hb:b≠0)(h:a∣b)(hf:b.fr v):a.fr v:=Int.le_trans (dvd_deg hb h v) hf
theorem iA{n:Nat}{a b:MP}(hb:b≠0)(h:a∣b)(hf:b.lo n):a.lo n:=λw d e=>rW hb h (hf w d e)
theorem rX(v:Nat)(a b:MP):(a+b).deg v<=max (a.deg v) (b.deg v):=by refine deg_le_of (by have:=deg_ge v a;omega) λn d=>?_;rw[co_add,co_above oM,co_above (p:=b) oM];grind
theorem Gi(v:Nat)(a:MP):(-a).deg v<=a.deg v:=by refine deg_le_of (deg_ge v a) λn b=>?_;rw[co_neg,co_above oM];grind
theorem mX(v:Nat)(a b:MP):(a-b).deg v<=max (a.deg v) (b.deg v):=by have e:a-b=a+-b:=gR;rw[e];have:=rX v a (-b);have:=Gi v b;omega
theorem Qv{n:Nat}{a b:MP}(ha:a.lo n)(hb:b.lo n):(a-b).lo n:=λw d e=>by have:=mX w a b;have h:a.deg w<=0:=ha w d e;have i:b.deg w<=0:=hb w d e;show(a-b).deg w<=0;omega
theorem AO(v:Nat):(1:MP).deg v=0:=by show max (-1) (Ex.get e0 v)=0;rw[BD];rfl
theorem rY(v:Nat):(1:MP).fr v:=by show(1:MP).deg v<=0;rw[AO];omega
theorem Cm(n:Nat):(1:MP).lo n:=λw _ _=>rY w
theorem Gj{d:MP}{v:Nat}(hd:d.fr v):d.co v 0=d:=by
 have:=split v d (N:=1) (by have h:d.deg v<=0:=hd;omega);rw[cK,cK]at this;have e:xk v 0=1:=ext' λx=>by rw[ev_xk,ev_one,Rat.pow_zero]
 rw[e]at this;grind
theorem KM{d:MP}{v:Nat}(hd:d.fr v){n:Nat}(b:0<n):d.co v n=0:=co_above (by have h:d.deg v<=0:=hd;omega)
theorem yV(v n:Nat)(p:MP){w:Nat}(d:w<4)(hv:v<4):(p.co v n).deg w<=max 0 (p.deg w):=by
 rcases(fQ (λt=>t.1.get w) (p.co v n).l (-1)).2.2 with e|⟨t,b,e⟩
 ·show aD _ w<=_;unfold aD;rw[e];omega
 ·show aD _ w<=_;unfold aD;rw[<-e];have b:t∈(p.l.filter λu=>u.1.get v=(n:Int)).map λu=>(u.1.put v 0,u.2):=b;obtain⟨u,hu,rfl⟩:=List.mem_map.1 b;by_cases hc:v=w
  ·subst hc;show(u.1.put v 0).get v<=_;rw[Ex.get_put];omega
  ·show(u.1.put v 0).get w<=_;rw[Ex.get_put_ne _ hv d hc];have:=eU (List.mem_filter.1 hu).1 w;have h:p.deg w=aD p.l w:=rfl;omega
theorem Ip{n i:Nat}{p:MP}(j:n<4)(hp:p.lo (n+1)):(p.co n i).lo n:=λw d b=>by
 rcases Nat.eq_or_lt_of_le d with e|h
 ·subst e;exact co_fr _ _ _
 ·have:=yV n i p b j;have k:p.deg w<=0:=hp w h b;show(p.co n i).deg w<=0;omega
theorem pY{n:Nat}{p:MP}(hp:p.lo (n+1))(hf:p.fr n):p.lo n:=λw b d=>by
 rcases Nat.eq_or_lt_of_le b with e|h
 ·subst e;exact hf
 ·exact hp w h d
theorem UG{n k:Nat}(d:n<4):(xk n k).lo (n+1):=λw e b=>by show max (-1) ((e0.put n k).get w)<=0;rw[Ex.get_put_ne _ d b oM,BD];omega
theorem zY{n:Nat}{p:MP}(b:n<4)(hp:p.lo (n+1)):(p.lc n).lo n:=Ip b hp
theorem ku{p:MP}(h:p.lo 0):∃r,p=c r:=by
 refine⟨cf p.l e0,eq_of (p.v.inj (bR.const _) λe=>?_)⟩;by_cases he:e=e0
 ·subst he;show _=cf (bZ _) e0;unfold bZ;split
  ·rename_i d;rw[d];rfl
  ·rw[bJ,if_pos rfl,jv];grind
 ·rw[nZ (l:=p.l),nZ]
  ·intro t b;show t.1≠e;have b:t∈bZ _:=b;unfold bZ at b;split at b
   ·cases b
   ·rw[List.mem_singleton.1 b];exact λh=>he h.symm
  ·intro t b i;apply he;rw[<-i];have d:=fr_get (h 0 oM oM) b;have i:=fr_get (h 1 oM oM) b;have j:=fr_get (h 2 oM oM) b;have k:=fr_get (h 3 oM oM) b;exact Ex.ext' d i j k
theorem mg(r s:Rat):c r*c s=c (r*s):=ext' λx=>by rw[ev_mul,ev_c,ev_c,ev_c]
theorem Cn:c 0=0:=rfl
theorem zZ:c 1=1:=rfl
theorem yX{r:Rat}(h:r≠0):(c r).unit:=⟨c r⁻¹,by rw[mg,Rat.mul_inv_cancel _ h];rfl⟩
theorem Qw{p:MP}(h:p.lo 0)(hp:p≠0):p.unit:=by obtain⟨r,rfl⟩:=ku h;exact yX λe=>hp (by rw[e];rfl)
theorem Gl{p:MP}(h:p.unit):p≠0:=dvd_ne one_ne h
theorem Qx{p:MP}(h:p.unit):p.lo 0:=iA one_ne h (Cm 0)
def lY (n:Nat):Prop:=∀a b:MP,a.lo n->b.lo n->∃g,g.lo n/\lK g a b
theorem Ti:lY 0:=λa b ha hb=>by
 by_cases h:a=0
 ·exact⟨b,hb,by rw[h];exact dvd_zero b,dvd_refl b,λd _ h=>h⟩
 ·exact⟨1,Cm 0,unit_dvd unit_one a,unit_dvd unit_one b,λd e _=>unit_of_dvd e (Qw ha h)⟩
structure um (v:Nat) (c p:MP):Prop where
 f:c.fr v
 d:c∣p
 u:∀d,d.fr v->d∣p->d∣c
def prim (v:Nat) (p:MP):Prop:=∀d,d.fr v->d∣p->d.unit
theorem cZ{v:Nat}{p:MP}(h:p.prim v):p≠0:=λe=>by have:=h 0 (oJ v) (by rw[e];exact dvd_refl 0);exact Gl this rfl
theorem kC{v:Nat}{p q:MP}(h:p.prim v)(hd:q∣p):q.prim v:=λd b e=>h d b (dvd_trans e hd)
variable {n:Nat}
theorem WM(G:lY n)(f:Nat->MP):∀N:Nat,(∀i,i<N->(f i).lo n)->∃g,g.lo n/\(∀i,i<N->g∣f i)/\∀d,(∀i,i<N->d∣f i)->d∣g
 | 0,_=>⟨0,MN n,λi h=>by omega,λd _=>dvd_zero d⟩
 | N+1,h=>by
  obtain⟨g,j,m,o⟩:=WM G f N λi e=>h i oM;obtain⟨k,p,b⟩:=G g (f N) j (h N oM);refine⟨k,p,λi e=>?_,λd hd=>b.u d (o d λi e=>hd i oM) (hd N oM)⟩;rcases Nat.lt_or_ge i N with h|h
  ·exact dvd_trans b.l (m i h)
  ·obtain rfl:i=N:=oM;exact b.r
theorem MO(G:lY n)(j:n<4){p:MP}(hp:p.lo (n+1)):∃c,c.lo n/\um n c p:=by
 obtain⟨g,e,k,l⟩:=WM G (λi=>p.co n i) ((p.deg n).toNat+1) λi _=>Ip j hp;have hf:g.fr n:=e n (nL _) j;refine⟨g,e,hf,(dvd_iff_co hf p).2 λi=>?_,λd hd b=>l d λi _=>(dvd_iff_co hd p).1 b i⟩;rcases Nat.lt_or_ge i ((p.deg n).toNat+1)with h|h
 ·exact k i h
 ·rw[co_above (by have:=deg_ge n p;omega)];exact dvd_zero g
theorem jk{v:Nat}{c p:MP}(h:um v c p)(hp:p≠0):∃q,p=c*q/\q.prim v/\c≠0:=by obtain⟨q,e⟩:=h.d;have hc:c≠0:=λb=>hp (by rw[e,b];grind);refine⟨q,e,λd hd ⟨x,i⟩=>?_,hc⟩;have j:=h.u (c*d) (vS h.f hd) ⟨x,by rw[e,i];grind⟩;exact unit_cancel hc j
theorem kD(G:lY n)(k:n<4){p:MP}(hp:p.lo (n+1))(b:p≠0):∃c q,p=c*q/\c.lo n/\c≠0/\q.prim n/\q.lo (n+1)/\um n c p:=by obtain⟨c,h,d⟩:=MO G k hp;obtain⟨q,e,i,j⟩:=jk d b;exact⟨c,q,e,h,j,i,iA b (by rw[e];exact dvd_mul_left _ _) hp,d⟩
theorem Vq(G:lY n){c s t:MP}(hc:c.lo n)(m:s.lo n)(i:t.lo n)(e:t≠0)(h:∀d,d∣c->d∣s->d.unit)(hd:c∣s*t):c∣t:=by obtain⟨k,_,b⟩:=G (t*c) (t*s) (kZ i hc) (kZ i m);obtain⟨u,rfl⟩:=b.u t (dvd_mul_right _ _) (dvd_mul_right _ _);have hu:=h u (dvd_cancel e b.l) (dvd_cancel e b.r);have j:=b.u c (dvd_mul_left _ _) (by rw[(gR:t*s=s*t)];exact hd);obtain⟨w,o⟩:=hu;refine dvd_trans j ⟨w,?_⟩;grind
theorem MQ(G:lY n)(q:n<4){h e d:MP}(o:h.prim n)(k:(e*h).lo (n+1))(he:e.fr n)(hd:d.fr n)(j:d∣e*h):d∣e:=by
 by_cases i:e=0
 ·rw[i];exact dvd_zero d
 ·obtain⟨c,_,b⟩:=MO G q k;obtain⟨u,rfl⟩:=b.u e he (dvd_mul_right _ _);have l:e*h≠0:=mul_ne i (cZ o);have m:u∣h:=dvd_cancel i b.d;have hu:u.unit:=o u (rW (λp=>dvd_ne l b.d p) (dvd_mul_left u e) b.f) m;obtain⟨w,r⟩:=hu;exact dvd_trans (b.u d hd j) ⟨w,gR⟩
theorem vT(v:Nat){p q:MP}(hp:p≠0)(hq:q≠0):(p*q).co v ((p.deg v).toNat+(q.deg v).toNat)=p.lc v*q.lc v:=Oo λf=>by
 have d:=deg_pos hp v;have e:=deg_pos hq v;have e1:((p.deg v).toNat:Int)=aD p.l v:=by show((aD p.l v).toNat:Int)=_;exact Int.toNat_of_nonneg d
 have b:((q.deg v).toNat:Int)=aD q.l v:=by show((aD q.l v).toNat:Int)=_;exact Int.toNat_of_nonneg e
 have:=zU (p:=p.l) (q:=q.l) v f;rw[lf_mul,<-tX];show Lf f (aN (canon (prods p.l q.l)) v _)=Lf f (prods (aN p.l v _) (aN q.l v _));rw[e1,b,<-this];rw[Int.natCast_add,e1,b,fG,fG];exact kN (p.v.nat.prods q.v.nat) _
theorem Qy{p:MP}(v:Nat):(p-p.lc v*xk v (p.deg v).toNat).deg v<=p.deg v-1\/p=0:=by
 by_cases b:p=0
 ·exact .inr b
 ·refine .inl (deg_le_of (by have:=deg_pos b v;omega) λk h=>?_);have d:=deg_pos b v;rw[co_sub,co_mul_fr (lc_fr v p)];have e:xk v (p.deg v).toNat=xk v (p.deg v).toNat * 1:=gR;rw[e,co_xk,if_pos oM];rcases Nat.eq_or_lt_of_le (oM:(p.deg v).toNat<=k)with e|hlt
  ·rw[<-e,Nat.sub_self,Gj (rY v)];show p.lc v-_=0;grind
  ·rw[KM (rY v) oM,co_above oM];grind
theorem Qz(G:lY n)(k:n<4)(N:Nat)
  (H:∀f g:MP,f.lo (n+1)->g.lo (n+1)->f.prim n->g.prim n->(f.deg n).toNat+(g.deg n).toNat<N->(f*g).prim n)
  {f g:MP} (u:f.lo (n+1)) (x:g.lo (n+1)) (o:f.prim n) (z:g.prim n) (J:(f.deg n).toNat+(g.deg n).toNat<=N) {c:MP} (hc:c.fr n) (hd:c∣f*g):∀d,d∣c->d∣f.lc n->d.unit:=by
 intro d r l;have f0:=cZ o;have B:=cZ z;have i:d.fr n:=rW (dvd_ne (mul_ne f0 B) hd) r hc;have j:=Qy (p:=f) n;obtain⟨f1,e1⟩:∃f1,f1=f - f.lc n*xk n (f.deg n).toNat:=⟨_,rfl⟩;rw[<-e1]at j;have s:f1.deg n<=f.deg n - 1:=j.resolve_right f0
 have C:d∣f1*g:=by
  have e:f1*g=f*g-f.lc n*(xk n (f.deg n).toNat * g):=by rw[e1];grind
  rw[e];exact dvd_sub (dvd_trans r hd) (dvd_mul_of l _)
 have b:f=f1+f.lc n*xk n (f.deg n).toNat:=by rw[e1];grind
 by_cases hz:f1=0
 ·refine o d i ?_;rw[b,hz];exact dvd_add (dvd_zero d) (dvd_mul_of l _)
 ·have I:f1.lo (n+1):=by
   rw[e1];exact Qv u (kZ (lo.mono oM (zY k u)) (UG k))
  obtain⟨e,q,eq,he,E,hq,y,_⟩:=kD G k I hz;have F:q.deg n<=f1.deg n:=dvd_deg hz (by rw[eq];exact dvd_mul_left _ _) n;have hp:=H q g y x hq z (by have:=deg_pos f0 n;have:=deg_pos (cZ hq) n;omega);have m:e.fr n:=he n (nL _) k
  have D:d∣e:=MQ G k (h:=q*g) (e:=e) hp (kZ (lo.mono oM he) (kZ y x)) m i (by
   have:e*(q*g)=f1*g:=by rw[eq];grind
   rw[this];exact C)
  refine o d i ?_;rw[b];refine dvd_add ?_ (dvd_mul_of l _);rw[eq];exact dvd_mul_of D _
theorem UH(G:lY n)(b:n<4):∀(N:Nat)(f g:MP),f.lo (n+1)->g.lo (n+1)->f.prim n->g.prim n->(f.deg n).toNat+(g.deg n).toNat<N->(f*g).prim n
 | 0,_,_,_,_,_,_,h=>by omega
 | N+1,f,g,lf,lg,pf,pg,hN=>λc hc hd=>by
  have l:=UH G b N;have m:=Qz G b N l lf lg pf pg oM hc hd
  have o:=Qz G b N l lg lf pg pf oM hc (by
   have e:g*f=f*g:=gR
   rw[e];exact hd)
  have f0:=cZ pf;have d:=cZ pg;have i:=mul_ne f0 d;have j:c∣f.lc n*g.lc n:=by rw[<-vT n f0 d];exact(dvd_iff_co hc _).1 hd _
  have k:c.lo n:=pY (iA i hd (kZ lf lg)) hc;have:=Vq G k (zY b lf) (zY b lg) (lc_ne d n) m j;exact o c (dvd_refl c) this
theorem QA(G:lY n)(b:n<4){f g:MP}(d:f.lo (n+1))(e:g.lo (n+1))(h:f.prim n)(i:g.prim n):(f*g).prim n:=UH G b _ f g d e h i (Nat.lt_succ_self _)
theorem Aq(G:lY n)(b:n<4){f g c:MP}(j:f.lo (n+1))(o:g.lo (n+1))(p:f.prim n)(hc:c.fr n)(hd:c∣f*g):c∣g:=by
 by_cases i:g=0
 ·rw[i];exact dvd_zero c
 ·obtain⟨e,q,rfl,he,m,hq,k,_⟩:=kD G b o i;have d:e.fr n:=he n (nL _) b
  have l:=MQ G b (h:=f*q) (e:=e) (QA G b j k p hq) (kZ (lo.mono oM he) (kZ j k)) d hc (by
   have:e*(f*q)=f*(e*q):=gR
   rw[this];exact hd)
  exact dvd_mul_of l _
theorem eB(G:lY n)(j:n<4){f g c:MP}(m:g.lo (n+1))(p:f.prim n)(hc:c.lo n)(i:c≠0)(hd:f∣c*g):f∣g:=by
 by_cases hg:g=0
 ·rw[hg];exact dvd_zero f
 ·obtain⟨h,e⟩:=hd;have b:=mul_ne i hg;have d:(c*g).lo (n+1):=kZ (lo.mono oM hc) m;have o:h.lo (n+1):=iA b (by rw[e];exact dvd_mul_left _ _) d;have l:f.lo (n+1):=iA b (by rw[e];exact dvd_mul_right _ _) d;obtain⟨k,rfl⟩:=Aq G j l o p (hc n (nL _) j) (by rw[<-e];exact dvd_mul_right _ _);exact⟨k,cancel i (by rw[e];grind)⟩
def red (v:Nat) (p q:MP):MP:=q.lc v*p-p.lc v*(xk v ((p.deg v).toNat-(q.deg v).toNat)*q)
theorem Tj{v:Nat}{p q:MP}(hp:p≠0)(hq:q≠0)(h:q.deg v<=p.deg v)(i:0<p.deg v):(red v p q).deg v<=p.deg v-1:=by
 have d:=deg_pos hq v;refine deg_le_of oM λk j=>?_;rw[red,co_sub,co_mul_fr (lc_fr v q),co_mul_fr (lc_fr v p),co_xk,if_pos oM];rcases Nat.eq_or_lt_of_le (oM:(p.deg v).toNat<=k)with e|hlt
 ·have b:k-((p.deg v).toNat-(q.deg v).toNat)=(q.deg v).toNat:=oM;rw[b,<-e];show q.lc v*p.lc v-p.lc v*q.lc v=0;grind
 ·rw[co_above (p:=p) oM,co_above (p:=q) oM];grind
theorem Vr(b:n<4){p q:MP}(hp:p.lo (n+1))(hq:q.lo (n+1)):(red n p q).lo (n+1) :=
 Qv (kZ (lo.mono oM (zY b hq)) hp) (kZ (lo.mono oM (zY b hp)) (kZ (UG b) hq))
theorem Iq(G:lY n)(i:n<4):∀(N:Nat)(p q:MP),p.lo (n+1)->q.lo (n+1)->p.prim n->q.prim n->(p.deg n).toNat+(q.deg n).toNat<N->∃h,h.lo (n+1)/\lK h p q
 | 0,_,_,_,_,_,_,h=>by omega
 | N+1,p,q,m,j,s,b,D=>by
  have B:=cZ s;have x:=cZ b
  have key:∀p q:MP,p.lo (n+1)->q.lo (n+1)->p.prim n->q.prim n->(p.deg n).toNat+(q.deg n).toNat<N+1->q.deg n<=p.deg n->∃h,h.lo (n+1)/\lK h p q:=by
   intro p q m j s b D kQ;have B:=cZ s;have x:=cZ b;rcases Int.lt_or_le 0 (q.deg n)with hq|hq
   ·have E:=Tj B x kQ oM;have C:q.lc n*p=red n p q+p.lc n*(xk n ((p.deg n).toNat-(q.deg n).toNat)*q):=by unfold red;grind
    by_cases hz:red n p q=0
    ·refine⟨q,j,eB G i m b (zY i j) (lc_ne x n) ?_,dvd_refl q,λd _ h=>h⟩;rw[C,hz];exact dvd_add (dvd_zero q) (dvd_mul_of' (dvd_mul_left _ _) _)
    ·obtain⟨e,r,eq,he,z,F,lr,_⟩:=kD G i (Vr i m j) hz;have H:r.deg n<=(red n p q).deg n:=dvd_deg hz (by rw[eq];exact dvd_mul_left _ _) n;obtain⟨h,J,o⟩:=Iq G i N q r j lr b F (by have:=deg_pos B n;have:=deg_pos (cZ F) n;omega);refine⟨h,J,eB G i m (kC b o.l) (zY i j) (lc_ne x n) ?_,o.l,λd y k=>o.u d k ?_⟩
     ·rw[C];refine dvd_add ?_ (dvd_mul_of' (dvd_trans o.l (dvd_mul_left _ _)) _);rw[eq];exact dvd_trans o.r (dvd_mul_left _ _)
     ·refine eB G i lr (kC b k) he z ?_;rw[<-eq];unfold red;exact dvd_sub (dvd_mul_of' y _) (dvd_mul_of' (dvd_mul_of' k _) _)
   ·have hu:q.unit:=b q hq (dvd_refl q);exact⟨1,Cm _,unit_dvd unit_one p,unit_dvd unit_one q,λd _ k=>unit_of_dvd k hu⟩
  rcases Int.le_total (q.deg n) (p.deg n)with h|h
  ·exact key p q m j s b D h
  ·obtain⟨g,I,hg⟩:=key q p j m b s oM h;exact⟨g,I,hg.r,hg.l,λd y k=>hg.u d k y⟩
theorem Ir(i:n<4)(G:lY n):lY (n+1):=λa b s lb=>by
 by_cases ha:a=0
 ·exact⟨b,lb,by rw[ha];exact dvd_zero b,dvd_refl b,λd _ h=>h⟩
 by_cases hb:b=0
 ·exact⟨a,s,dvd_refl a,by rw[hb];exact dvd_zero a,λd h _=>h⟩
 obtain⟨c,p,rfl,hc,c0,J,B,E⟩:=kD G i s ha;obtain⟨d,q,rfl,hd,d0,K,C,o⟩:=kD G i lb hb;obtain⟨g,F,hg⟩:=G c d hc hd;obtain⟨h,H,m⟩:=Iq G i _ p q B C J K (Nat.lt_succ_self _);refine⟨g*h,kZ (lo.mono oM F) H,mul_dvd hg.l m.l,mul_dvd hg.r m.r,λx k z=>?_⟩;have L:=dvd_ne ha k;have I:=iA ha k s;obtain⟨e,y,rfl,he,e0,D,M,_⟩:=kD G i I L;have j:e.fr n:=he n (nL _) i;refine mul_dvd (hg.u e ?_ ?_) (m.u y ?_ ?_)
 ·exact E.u e j (dvd_trans (dvd_mul_right _ _) k)
 ·exact o.u e j (dvd_trans (dvd_mul_right _ _) z)
 ·exact eB G i B D hc c0 (dvd_trans (dvd_mul_left _ _) k)
 ·exact eB G i C D hd d0 (dvd_trans (dvd_mul_left _ _) z)
theorem yY:∀n,n<=4->lY n
 | 0,_=>Ti
 | n+1,h=>Ir (by omega) (yY n (by omega))
end MP
end Q
end
section
namespace Q
theorem dF{f g:Nat->MP}:∀{n:Nat},(∀i,i<n->f i=g i)->cK f n=cK g n
 | 0,_=>rfl
 | n+1,h=>by rw[cK,cK,dF λi b=>h i (by omega),h n (by omega)]
theorem mY:∀n:Nat,cK (λ_=>0) n=0
 | 0=>rfl
 | n+1=>by rw[cK,mY n];grind
theorem Co(f g:Nat->MP):∀n:Nat,cK (λi=>f i+g i) n=cK f n+cK g n
 | 0=>by simp only[cK];grind
 | n+1=>by simp only[cK];rw[Co f g n];grind
theorem qV(c:MP)(f:Nat->MP):∀n:Nat,cK (λi=>c*f i) n=c*cK f n
 | 0=>by simp only[cK];grind
 | n+1=>by simp only[cK];rw[qV c f n];grind
theorem Iu(f:Nat->MP)(n:Nat):cK (λi=>- f i) n=- cK f n:=by have:=qV (-1) f n;have e:(λi=>(-1:MP)*f i)=λi=>- f i:=funext λi=>gR;rw[e]at this;rw[this];grind
def wU (k j:Nat):Nat:=if j<k then j else j+1
def X4 (k j:Nat):Nat:=if j<k then j else j-1
theorem MR(k j:Nat):X4 k (wU k j)=j:=by
 unfold X4 wU;by_cases h:j<k
 ·rw[if_pos h,if_pos h]
 ·rw[if_neg h,if_neg oM];omega
theorem QB(k j:Nat):wU k j≠k:=by unfold wU;split<;>omega
theorem Gm{k j n:Nat}(h:j<n):wU k j<n+1:=by unfold wU;split<;>omega
theorem Iw(f:Nat->MP):∀{n k:Nat},k<n+1->cK f (n+1)=f k+cK (λj=>f (wU k j)) n
 | 0,k,h=>by obtain rfl:k=0:=oM;simp only[cK];grind
 | n+1,k,h=>by
  rcases Nat.eq_or_lt_of_le (oM:k<=n+1)with e|hk
  ·subst e;rw[cK,dF (f:=λj=>f (wU (n+1) j)) (g:=f) λi b=>by simp only[wU,if_pos b]];grind
  ·rw[cK,Iw f (k:=k) oM,cK,show wU k n=n+1 from by unfold wU;rw[if_neg oM]];grind
theorem Vs{P:MP->Prop}(y:P 1)(ha:∀a b,P a->P b->P (a+b))(hm:∀a b,P a->P b->P (a*b))(z:∀a,P a->P (-a)) :
  ∀(e n:Nat)(M:Nat->Nat->MP),(∀i j,i<e->j<n->P (M i j))->e<n->∃s:Nat->MP,(∀j,j<n->P (s j))/\(∃j,j<n/\s j≠0)/\∀i,i<e->cK (λj=>s j*M i j) n=0:=by
 have G:P 0:=by have:=ha 1 (-1) y (z 1 y);have e:(1:MP)+-1=0:=gR;rwa[e]at this
 have I:∀(f:Nat->MP) n,(∀j,j<n->P (f j))->P (cK f n):=by
  intro f n
  induction n with
  | zero=>intro _;exact G
  | succ n u=>intro h;exact ha _ _ (u λj d=>h j oM) (h n oM)
 intro e
 induction e with
 | zero=>intro n M _ p;exact⟨λ_=>1,λ_ _=>y,⟨0,p,MP.one_ne⟩,λi r=>oM⟩
 | succ e u =>
  intro n M l p;by_cases hz:∀j,j<n->M e j=0
  ·obtain⟨s,x,L,C⟩:=u n M (λi j r d=>l i j oM d) oM;refine⟨s,x,L,λi r=>?_⟩;rcases Nat.eq_or_lt_of_le (oM:i<=e)with o|hi'
   ·subst o;rw[dF (g:=λ_=>0) λj d=>by rw[hz j d];grind];exact mY n
   ·exact C i hi'
  ·have ⟨k,hk⟩:=Classical.not_forall.1 hz;have ⟨hkn,hk0⟩:=Classical.not_imp.1 hk;obtain⟨m,rfl⟩:∃m,n=m+1:=⟨n - 1,oM⟩
   obtain⟨s,x,⟨B,J,K⟩,C⟩:=u m (λi j=>M e k*M i (wU k j) - M i k*M e (wU k j)) (λi j r d=>by
    have D:=hm _ _ (l e k oM hkn) (l i (wU k j) oM (Gm d));have E:=z _ (hm _ _ (l i k oM hkn) (l e (wU k j) oM (Gm d)));have:=ha _ _ D E;have o:M e k*M i (wU k j)-M i k*M e (wU k j)=M e k*M i (wU k j)+-(M i k*M e (wU k j)):=gR;show P (M e k*M i (wU k j)-M i k*M e (wU k j))
    rw[o];exact this) oM
   refine⟨λj=>if j=k then-cK (λj=>s j*M e (wU k j)) m else M e k*s (X4 k j),λj d=>?_,⟨wU k B,Gm J,?_⟩,λi r=>?_⟩
   ·show P (if j=k then _ else _);split
    ·exact z _ (I _ _ λj d=>hm _ _ (x j d) (l e _ oM (Gm d)))
    ·rename_i H;refine hm _ _ (l e k oM hkn) (x _ ?_);unfold X4;split<;>omega
   ·show(if wU k B=k then _ else _)≠_;rw[if_neg (QB k B),MR];exact MP.mul_ne hk0 K
   ·rw[Iw _ hkn];simp only[if_pos,if_neg (QB k _),MR]
    have q:cK (λj=>s j*(M e k*M i (wU k j)-M i k*M e (wU k j))) m=M e k*cK (λj=>s j*M i (wU k j)) m-M i k*cK (λj=>s j*M e (wU k j)) m:=by rw[<-qV,<-qV];have:∀a b:MP,a-b=a+-b:=λa b=>gR;rw[this,<-Iu,<-Co];exact dF λj _=>gR
    have F:cK (λj=>M e k*s j*M i (wU k j)) m=M e k*cK (λj=>s j*M i (wU k j)) m:=by rw[<-qV];exact dF λj _=>gR
    rw[F];rcases Nat.eq_or_lt_of_le (oM:i<=e)with o|hi'
    ·subst o;grind
    ·have:=C i hi';rw[q]at this;grind
theorem Vt{A B:Nat}(f:Nat->Nat)(h:∀a,a<A->f a<B)(j:B<A):∃a b,a<A/\b<A/\a≠b/\f a=f b:=by
 rcases Classical.em (∃a b,a<A/\b<A/\a≠b/\f a=f b)with hh|hh
 ·exact hh
 ·exfalso
  have d:((List.range A).map f).Nodup:=by rw[List.Nodup,List.pairwise_map];refine List.Pairwise.imp_of_mem ?_ (List.pairwise_lt_range (n:=A));intro a b ha hb i e;exact hh ⟨a,b,List.mem_range.1 ha,List.mem_range.1 hb,oM,e⟩
  have:=d.length_le_of_subset (l₂:=List.range B) (λx k=>by
   obtain⟨a,ha,rfl⟩:=List.mem_map.1 k
   exact List.mem_range.2 (h a (List.mem_range.1 ha)))
  simp at this;omega
def Cq (X:Nat):Nat->Nat->Nat
 | a,0=>a%X
 | a,j+1=>Cq X (a/X) j
theorem Cr{X:Nat}(b:0<X):∀(a j:Nat),Cq X a j<X
 | a,0=>Nat.mod_lt _ b
 | a,j+1=>Cr b (a/X) j
theorem Gn{X:Nat}(i:0<X):∀(n a b:Nat),a<X^n->b<X^n->(∀j,j<n->Cq X a j=Cq X b j)->a=b
 | 0,a,b,ha,hb,_=>by simp at ha hb;omega
 | n+1,a,b,ha,hb,h=>by have d:=h 0 oM;have e:=Gn i n (a/X) (b/X) (Nat.div_lt_of_lt_mul (by rwa[Nat.mul_comm,<-Nat.pow_succ])) (Nat.div_lt_of_lt_mul (by rwa[Nat.mul_comm,<-Nat.pow_succ])) λj k=>h (j+1) oM;simp only[Cq]at d;have:=Nat.div_add_mod a X;have:=Nat.div_add_mod b X;rw[e,d]at *;omega
def oD (W:Nat) (y:Nat->Nat):Nat->Nat
 | 0=>0
 | n+1=>y 0+W*oD W (λi=>y (i+1)) n
theorem xw{W:Nat}:∀(n:Nat)(y:Nat->Nat),(∀i,i<n->y i<W)->oD W y n<W^n
 | 0,_,_=>by simp[oD]
 | n+1,y,h=>by have b:=h 0 oM;have:=xw n (λi=>y (i+1)) λi d=>h (i+1) oM;rw[oD,Nat.pow_succ,Nat.mul_comm (W^n)];have:W*(oD W (λi=>y (i+1)) n+1)<=W*W^n:=Nat.mul_le_mul_left W this;rw[Nat.mul_succ]at this;omega
theorem ES{W:Nat}:∀(n:Nat)(y z:Nat->Nat),(∀i,i<n->y i<W)->(∀i,i<n->z i<W)->oD W y n=oD W z n->∀i,i<n->y i=z i
 | 0,_,_,_,_,_=>λi b=>by omega
 | n+1,y,z,hy,hz,h=>λi b=>by
  have e:=hy 0 oM;have j:=hz 0 oM;rw[oD,oD]at h
  have e1:y 0=z 0:=by have:=congrArg (· % W) h;simp only[Nat.add_mul_mod_self_left,Nat.mod_eq_of_lt e,Nat.mod_eq_of_lt j]at this;exact this
  have d:=Nat.eq_of_mul_eq_mul_left (oM:0<W) (show W*oD W (λi=>y (i+1)) n=W*oD W (λi=>z (i+1)) n by omega)
  cases i with
  | zero=>exact e1
  | succ i=>exact ES n _ _ (λi b=>hy (i+1) oM) (λi b=>hz (i+1) oM) d i oM
def vU (f:Nat->Int):Nat->Int
 | 0=>0
 | n+1=>vU f n+f n
theorem Iy(f g:Nat->Int):∀n,vU (λi=>f i-g i) n=vU f n-vU g n
 | 0=>rfl
 | n+1=>by simp only[vU];rw[Iy f g n];omega
theorem Iz{f:Nat->Int}{K:Nat}:∀{n:Nat},(∀i,i<n->(f i).natAbs<=K)->(vU f n).natAbs<=n*K
 | 0,_=>by simp[vU]
 | n+1,h=>by have b:=Iz (n:=n) λi e=>h i oM;have d:=h n oM;rw[vU,Nat.succ_mul];omega
theorem Vu{e n H X:Nat}(M:Nat->Nat->Int)(B:∀i j,i<e->j<n->(M i j).natAbs<=H)(k:(2*(n*(X*H))+1)^e<(X+1)^n) :
  ∃s:Nat->Int,(∀j,(s j).natAbs<=X)/\(∃j,j<n/\s j≠0)/\∀i,i<e->vU (λj=>s j*M i j) n=0:=by
 have hb:∀(a i:Nat),i<e->(vU (λj=>(Cq (X+1) a j:Int)*M i j) n).natAbs<=n*(X*H):=λa i d=>Iz λj q=>by rw[Int.natAbs_mul,Int.natAbs_natCast];exact Nat.mul_le_mul (by have:=Cr (X:=X+1) oM a j;omega) (B i j d q)
 obtain⟨Z,m⟩:∃Z,Z=n*(X*H):=⟨_,rfl⟩;rw[<-m]at k
 let y:Nat->Nat->Nat:=λa i=>(vU (λj=>(Cq (X+1) a j:Int)*M i j) n+Z).toNat
 have u:∀a i,i<e->y a i<2*Z+1:=λa i d=>by have:=hb a i d;rw[<-m]at this;show Int.toNat _<_;omega
 obtain⟨a,b,ha,p,r,o⟩:=Vt (λa=>oD (2*Z+1) (y a) e) (λa _=>xw e _ λi d=>u a i d) k;have d:=ES e _ _ (λi d=>u a i d) (λi d=>u b i d) o;refine⟨λj=>(Cq (X+1) a j:Int) - Cq (X+1) b j,λj=>?_,?_,λi h=>?_⟩
 ·have:=Cr (X:=X+1) oM a j;have:=Cr (X:=X+1) oM b j;show Int.natAbs (_-_)<=X;omega
 ·rcases Classical.em (∃j,j<n/\Cq (X+1) a j≠Cq (X+1) b j)with ⟨j,l,x⟩|hh
  ·exact⟨j,l,by show _-_≠(0:Int);omega⟩
  ·exfalso;apply r;refine Gn oM n a b ha p λj q=>?_;rcases Classical.em (Cq (X+1) a j=Cq (X+1) b j)with h|h
   ·exact h
   ·exact absurd ⟨j,q,h⟩ hh
 ·have l:=d i h;have x:=hb a i h;have z:=hb b i h;rw[<-m]at x z;have l:Int.toNat _=Int.toNat _:=l;have:vU (λj=>(Cq (X+1) a j:Int)*M i j) n=vU (λj=>(Cq (X+1) b j:Int)*M i j) n:=oM;rw[show(λj=>((Cq (X+1) a j:Int)-Cq (X+1) b j)*M i j)=λj=>(Cq (X+1) a j:Int)*M i j-(Cq (X+1) b j:Int)*M i j from funext λj=>Int.sub_mul _ _ _,Iy,this];omega
end Q
end
section
namespace Q
namespace MP
inductive Sq (v:Nat) (p q:MP):MP->MP->Prop
 | base:Sq v p q p q
 | step {x y z k t e:MP}:Sq v p q x y->y≠0->k≠0->k.lo v->e≠0->e.fr v->k*x=t*y+e*z->z.deg v<y.deg v->Sq v p q y z
theorem uo{a:MP}{v:Nat}(h:a.fr v)(b:a≠0):a.deg v=0:=by have:=deg_pos b v;have d:a.deg v<=0:=h;omega
theorem ET{v:Nat}{x y z k t e f S T c:MP}(m:y≠0)(k0:k≠0)(e0:e≠0)(r:e.fr v)(D:k.fr v)(q:k*x=t*y+e*z)(C:z.deg v<y.deg v)
  {K:Int} (hf:f.deg v<=K) (F:K<y.deg v) (c0:c≠0) (cf:c.fr v) (hc:c*f=S*x+T*y) (G:S=0\/S.deg v<y.deg v-K) (p:S≠0\/T≠0) :
  (k*c)*f=(S*t+k*T)*y+(S*e)*z/\(S*t+k*T=0\/(S≠0/\(S*t+k*T).deg v+y.deg v<=S.deg v+z.deg v))/\(S*t+k*T≠0\/S*e≠0):=by
 have j:(k*c)*f=(S*t+k*T)*y+(S*e)*z:=by
  have i:(k*c)*f=S*(k*x)+k*T*y:=by have:(k*c)*f=k*(c*f):=gR;rw[this,hc];grind
  rw[i,q];grind
 refine⟨j,?_,?_⟩
 ·by_cases n:S*t+k*T=0
  ·exact .inl n
  ·refine .inr ?_;have o:(S*t+k*T)*y=(k*c)*f-(S*e)*z:=by rw[j];grind
   have hd:=deg_mul n m v;have i:=mX v ((k*c)*f) ((S*e)*z);rw[<-o,hd]at i;have u:=deg_pos n v
   have E:((k*c)*f).deg v<=max K (-1):=by
    by_cases l:f=0
    ·have d:(k*c)*f=0:=by rw[l];grind
     rw[d,deg_zero];omega
    ·rw[deg_mul (mul_ne k0 c0) l,uo (vS D cf) (mul_ne k0 c0)];omega
   by_cases b:S=0
   ·exfalso;have d:(S*e)*z=0:=by rw[b];grind
    rw[d,deg_zero]at i;have:=deg_pos m v;omega
   ·refine⟨b,?_⟩;by_cases hz:z=0
    ·exfalso;have d:(S*e)*z=0:=by rw[hz];grind
     rw[d,deg_zero]at i;have:=deg_pos m v;omega
    ·have s:((S*e)*z).deg v=S.deg v+z.deg v:=by
      rw[deg_mul (mul_ne b e0) hz,deg_mul b e0,uo r e0];omega
     rw[s]at i;have:=deg_pos m v;omega
 ·by_cases b:S=0
  ·have B:=p.resolve_left λh=>h b;have d:S*t+k*T=k*T:=by rw[b];grind
   rw[d];exact .inl (mul_ne k0 B)
  ·exact .inr (mul_ne b e0)
theorem Sq.comb{v:Nat}(hv:v<4){p q x y:MP}(h:Sq v p q x y){S T f:MP}(hf:f=S*p+T*q){K:Int}(j:f.deg v<=K)(u:S=0\/S.deg v<q.deg v-K)(l:S≠0\/T≠0) :
  K<y.deg v->∃c b T':MP,c≠0/\c.lo v/\c*f=b*x+T'*y/\(b=0\/b.deg v<y.deg v-K)/\(b≠0\/T'≠0):=by
 induction h with
 | base=>exact λ_=>⟨1,S,T,one_ne,Cm v,by rw[hf];grind,u,l⟩
 | step _ B k0 n e0 s m k z =>
  intro D;obtain⟨c,b,T',c0,cf,hc,d,e⟩:=z oM;obtain⟨o,i,r⟩:=ET B k0 e0 s (n v (nL v) hv) m k j oM c0 (cf v (nL v) hv) hc d e;refine⟨_,_,_,mul_ne k0 c0,kZ n cf,o,?_,r⟩;rcases i with i|⟨b1,C⟩
  ·exact .inl i
  ·rcases d with h|h
   ·exact absurd h b1
   ·exact .inr oM
theorem Sq.dvd{v:Nat}(hv:v<4){p q x y z k t e:MP}(h:Sq v p q x y)(J:y≠0)(k0:k≠0)(B:k.lo v)(e0:e≠0)(F:e.fr v)(s:k*x=t*y+e*z)(o:z.deg v<y.deg v)(L:z≠0)
  {S T f:MP} (hf:f=S*p+T*q) {K:Int} (l:f.deg v<=K) (H:S=0\/S.deg v<q.deg v-K) (r:S≠0\/T≠0) (u:K<y.deg v) (I:z.deg v<=K) :
  f≠0/\∃c,c≠0/\c.lo v/\z∣c*f:=by
 obtain⟨c,i,T',c0,cf,hc,j,m⟩:=h.comb hv hf l H r u;obtain⟨b,C,D⟩:=ET J k0 e0 F (B v (nL v) hv) s o l u c0 (cf v (nL v) hv) hc j m
 have d:i*t+k*T'=0:=by
  by_cases d:i*t+k*T'=0
  ·exact d
  ·exfalso;obtain⟨b1,M⟩:=C.resolve_left d;rcases j with h|h
   ·exact b1 h
   ·have:=deg_pos d v;omega
 rw[d]at b;have e1:(0:MP)*y+i*e*z=i*e*z:=gR;rw[e1]at b;refine⟨λG=>?_,_,mul_ne k0 c0,kZ B cf,⟨i*e,by rw[b];grind⟩⟩;rw[G]at b;have E:k*c*(0:MP)=0:=gR;rw[E]at b;rcases mul_eq_zero.1 b.symm with h|h
 ·exact D.elim (λn=>n d) λn=>n h
 ·exact L h
theorem vW(f:Nat->MP)(a:Nat):∀b,cK f (a+b)=cK f a+cK (λj=>f (a+j)) b
 | 0=>by rw[Nat.add_zero,cK];grind
 | b+1=>by rw[<-Nat.add_assoc,cK,vW f a b,cK];grind
theorem qc(f:Nat->MP){k:Nat}:∀{n:Nat},k<n->(∀j,j<n->j≠k->f j=0)->cK f n=f k
 | 0,h,_=>by omega
 | n+1,h,hz=>by
  rw[cK];rcases Nat.eq_or_lt_of_le (show k<=n by omega)with e|hk
  ·subst e;rw[dF (g:=λ_=>0) λj b=>hz j (by omega) (by omega),mY];grind
  ·rw[qc f hk λj b=>hz j (by omega),hz n (by omega) (by omega)];grind
theorem rZ(v i:Nat)(f:Nat->MP):∀n,(cK f n).co v i=cK (λj=>(f j).co v i) n
 | 0=>rfl
 | n+1=>by rw[cK,co_add,rZ v i f n];rfl
theorem qd{v:Nat}{f:Nat->MP}{d:Int}(hd:-1<=d):∀{n:Nat},(∀j,j<n->(f j).deg v<=d)->(cK f n).deg v<=d
 | 0,_=>by rw[cK,deg_zero];exact hd
 | n+1,h=>by have b:=qd hd (n:=n) λj i=>h j oM;have e:=h n oM;rw[cK];have:=rX v (cK f n) (f n);omega
theorem uX(f:Nat->MP)(c:MP)(n:Nat):cK (λi=>f i*c) n=cK f n*c:=by rw[dF (g:=λi=>c*f i) λi _=>gR,qV];grind
theorem bT(v:Nat)(a b:MP){x y:Int}(d:a.deg v<=x)(i:b.deg v<=y)(h:-1<=x+y):(a*b).deg v<=x+y:=by
 by_cases ha:a=0
 ·have e:a*b=0:=by rw[ha];grind
  rw[e,deg_zero];exact h
 ·by_cases hb:b=0
  ·have e:a*b=0:=by rw[hb];grind
   rw[e,deg_zero];exact h
  ·rw[deg_mul ha hb];omega
theorem qW(v i:Nat)(p:MP){w:Nat}(b:w<4)(hv:v<4){d:Nat}(h:p.deg w<=d):(p.co v i).deg w<=d:=by have:=yV v i p b hv;omega
theorem UI{v i:Nat}{p:MP}{w:Nat}(b:w<4)(hv:v<4)(h:p.fr w):(p.co v i).fr w:=by have:=yV v i p b hv;have d:p.deg w<=0:=h;show(p.co v i).deg w<=0;omega
theorem qX{v w k:Nat}(b:w<4)(hv:v<4)(h:v≠w):(xk v k).deg w=0:=by show max (-1) ((e0.put v k).get w)=0;rw[Ex.get_put_ne _ hv b h,BD];rfl
theorem fH(v k n:Nat):(xk v k).co v n=if n=k then 1 else 0:=by
 have e:xk v k=xk v k*1:=gR;rw[e,co_xk];by_cases h:k<=n
 ·rw[if_pos h];by_cases b:n=k
  ·rw[if_pos b,b,Nat.sub_self,Gj (rY v)]
  ·rw[if_neg b,KM (rY v) oM]
 ·rw[if_neg h,if_neg oM]
def UJ (v w:Nat) (R A:Nat) (p q:MP) (j:Nat):MP :=
 if j<A then(xk w (j%R)*xk v (j/R))*p else(xk w ((j-A)%R)*xk v ((j-A)/R))*q
theorem KN{v w:Nat}(hv:v<4)(I:w<4)(D:v≠w){p q:MP}{m n k d:Nat}(hm:p.deg v<=m)(hn:q.deg v<=n)(aa:k<m)(ab:k<n)(hp:p.deg w<=d)(hq:q.deg w<=d) :
  ∃S T:MP,(S≠0\/T≠0)/\S.deg v<n-k/\(S*p+T*q).deg v<=k/\(S*p+T*q).deg w<=(((m+n-2*k)*d:Nat):Int):=by
 obtain⟨u,hu⟩:∃u,u=m+n - 2*k:=⟨_,rfl⟩;obtain⟨R,hR⟩:∃R,R=(u - 1)*d+1:=⟨_,rfl⟩;have C:0<R:=oM;obtain⟨o,hS⟩:∃o,o=n - k:=⟨_,rfl⟩;obtain⟨G,hT⟩:∃G,G=m - k:=⟨_,rfl⟩;have B:u=o+G:=oM
 have a7:R-1+d=u*d:=by
  have:u*d=(u-1)*d+d:=by rw[<-Nat.succ_mul];congr 1;omega
  omega
 obtain⟨z,a0⟩:∃z,z=u*d+1:=⟨_,rfl⟩
 let mo:Nat->MP:=λj=>xk w (j%R)*xk v (j/R)
 have X:∀j,(mo j).deg w<=(R-1:Nat):=λj=>by show(xk w (j%R)*xk v (j/R)).deg w<=_;rw[deg_mul (xk_ne _ _) (xk_ne _ _),deg_xk,qX I hv D];have:=Nat.mod_lt j C;omega
 have F:∀j,(mo j).deg v=(j/R:Nat):=λj=>by show(xk w (j%R)*xk v (j/R)).deg v=_;rw[deg_mul (xk_ne _ _) (xk_ne _ _),deg_xk,qX hv I (Ne.symm D)];omega
 have a3:∀j,(UJ v w R (o*R) p q j).deg w<=(u*d:Nat):=λj=>by
  unfold UJ;split
  ·exact Int.le_trans (bT w _ _ (X j) hp oM) oM
  ·exact Int.le_trans (bT w _ _ (X (j-o*R)) hq oM) oM
 have a2:∀j,j<u*R->(UJ v w R (o*R) p q j).deg v<=(m+n-k-1:Nat):=λj x=>by
  unfold UJ;split
  ·rename_i h;have r:j/R<o:=(Nat.div_lt_iff_lt_mul C).2 h;have y:=F j;obtain⟨c,hc⟩:∃c:Nat,c=j/R:=⟨_,rfl⟩;rw[<-hc]at r y;exact Int.le_trans (bT v _ _ (Int.le_of_eq y) hm oM) oM
  ·rename_i h;have r:(j - o*R)/R<G:=(Nat.div_lt_iff_lt_mul C).2 (by rw[B,Nat.add_mul]at x;omega);have y:=F (j - o*R);obtain⟨c,hc⟩:∃c:Nat,c=(j - o*R)/R:=⟨_,rfl⟩;rw[<-hc]at r y;exact Int.le_trans (bT v _ _ (Int.le_of_eq y) hn oM) oM
 obtain⟨s,H,⟨W,j1,j2⟩,s3⟩:=Vs (P:=λa=>a.fr v/\a.fr w) ⟨rY v,rY w⟩
  (λa b h J=>⟨by have:=rX v a b;have r:a.deg v<=0:=h.1;have y:b.deg v<=0:=J.1;show(a+b).deg v<=0;omega,by have:=rX w a b;have r:a.deg w<=0:=h.2;have y:b.deg w<=0:=J.2;show(a+b).deg w<=0;omega⟩)
  (λa b h J=>⟨vS h.1 J.1,vS h.2 J.2⟩)
  (λa h=>⟨Int.le_trans (Gi v a) h.1,Int.le_trans (Gi w a) h.2⟩)
  ((u-1)*z) (u*R) (λi j=>((UJ v w R (o*R) p q j).co v (k+1+i/z)).co w (i%z))
  (λi j _ _=>⟨UI hv I (co_fr _ _ _),co_fr _ _ _⟩)
  (by
   rw[a0,hR];have r:(u-1)*(u*d+1)=(u-1)*(u*d)+(u-1):=by rw[Nat.mul_add,nU]
   have y:u*((u-1)*d+1)=u*((u-1)*d)+u:=by rw[Nat.mul_add,nU]
   have h3:(u-1)*(u*d)=u*((u-1)*d):=Nat.mul_left_comm _ _ _
   rw[r,y,h3];omega)
 let S:MP:=cK (λj=>s j*mo j) (o*R)
 let T:MP:=cK (λj=>s (o*R+j)*mo j) (G*R)
 have E:S*p+T*q=cK (λj=>s j*UJ v w R (o*R) p q j) (u*R):=by
  rw[B,Nat.add_mul,vW,<-uX,<-uX]
  congr 1
  ·refine dF λj x=>?_;simp only[UJ,if_pos x];show s j*mo j*p=_;grind
  ·refine dF λj x=>?_;simp only[UJ,if_neg (oM:¬o*R+j<o*R),(oM:o*R+j-o*R=j)];show s (o*R+j)*mo j*q=_;grind
 have L:(S*p+T*q).deg w<=(u*d:Nat):=by rw[E];refine qd oM λj x=>?_;have:=bT w (s j) _ (H j x).2 (a3 j) oM;omega
 have a8:(S*p+T*q).deg v<=(m+n-k-1:Nat):=by rw[E];refine qd oM λj x=>?_;have:=bT v (s j) _ (H j x).1 (a2 j x) oM;omega
 have a4:∀l:Nat,k<l->(S*p+T*q).co v l=0:=λl hl=>by
  rcases Nat.lt_or_ge l (m+n - k)with hlt|hge
  ·obtain⟨g,hg⟩:∃g,g=(S*p+T*q).co v l:=⟨_,rfl⟩;rw[<-hg];have a9:g.deg w<=(u*d:Nat):=by rw[hg];exact qW v l _ I hv L
   have hz:∀b,g.co w b=0:=λb=>by
    rcases Nat.lt_or_ge b z with hb|hb
    ·have Y:(l-(k+1))*z+b<(u-1)*z:=by
      have r:l-(k+1)+1<=u-1:=oM;have:=Nat.mul_le_mul_right z r;rw[Nat.succ_mul]at this;omega
     have:=s3 _ Y
     have e1:((l-(k+1))*z+b)/z=l-(k+1):=by rw[Nat.add_comm,Nat.add_mul_div_right _ _ oM,Nat.div_eq_of_lt hb,Nat.zero_add]
     have Z:((l-(k+1))*z+b)%z=b:=by rw[Nat.add_comm,Nat.add_mul_mod_self_right,Nat.mod_eq_of_lt hb]
     simp only[e1,Z,(oM:k+1+(l-(k+1))=l)]at this;rw[hg,E,rZ,rZ,<-this];refine dF λj x=>?_;rw[co_mul_fr (H j x).1,co_mul_fr (H j x).2]
    ·exact co_above oM
   have:=split w g (N:=z) oM;rw[this,dF (g:=λ_=>0) λi _=>by rw[hz i];grind,mY]
  ·exact co_above oM
 have O:∀(f:Nat->MP)(N:Nat),(∀j,j<N->(f j).fr v/\(f j).fr w)->cK (λj=>f j*mo j) N=0->∀j,j<N->f j=0:=by
  intro f N hf h0 j x;have r:=congrArg (λg=>(g.co v (j/R)).co w (j%R)) h0;simp only[rZ]at r;rw[qc _ x ?_]at r
  ·rw[co_mul_fr (hf j x).1]at r
   have e:(mo j).co v (j/R)=xk w (j%R):=by show(xk w (j%R)*xk v (j/R)).co v (j/R)=_;rw[co_mul_fr (show(xk w (j%R)).fr v from by show(xk w (j%R)).deg v<=0;rw[qX hv I (Ne.symm D)];omega),fH,if_pos rfl];grind
   rw[e,co_mul_fr (hf j x).2,fH,if_pos rfl]at r;have Z:(0:MP).co v (j/R)=0:=rfl;have e3:(0:MP).co w (j%R)=0:=rfl;rw[Z,e3]at r;grind
  ·intro i Y a5;show((f i*mo i).co v (j/R)).co w (j%R)=0;rw[co_mul_fr (hf i Y).1];show(f i*(xk w (i%R)*xk v (i/R)).co v (j/R)).co w (j%R)=0;rw[co_mul_fr (show(xk w (i%R)).fr v from by show(xk w (i%R)).deg v<=0;rw[qX hv I (Ne.symm D)];omega),fH];by_cases r:j/R=i/R
   ·rw[if_pos r];have y:j%R≠i%R:=λy=>a5 (by have:=Nat.div_add_mod j R;have:=Nat.div_add_mod i R;rw[r,y]at *;omega);have e:f i*(xk w (i%R)*1)=f i*xk w (i%R):=gR;rw[e,co_mul_fr (hf i Y).2,fH,if_neg y];grind
   ·rw[if_neg r];have e:f i*(xk w (i%R)*0)=0:=gR;rw[e];rfl
 refine⟨S,T,?_,?_,deg_le_of oM λl hl=>a4 l oM,?_⟩
 ·by_cases K:S=0
  ·refine .inr λa1=>j2 ?_;have M:o*R<=u*R:=Nat.mul_le_mul_right R oM;rcases Nat.lt_or_ge W (o*R)with h|h
   ·exact O s _ (λj x=>H j oM) K W h
   ·have a6:u*R=o*R+G*R:=by rw[B,Nat.add_mul]
    have:=O (λj=>s (o*R+j)) (G*R) (λj x=>H _ oM) a1 (W-o*R) oM;simp only[(oM:o*R+(W-o*R)=W)]at this;exact this
  ·exact .inl K
 ·have:S.deg v<=(o-1:Nat):=qd oM λj x=>by
   have r:j/R<o:=(Nat.div_lt_iff_lt_mul C).2 x;have M:o*R<=u*R:=Nat.mul_le_mul_right R oM;have y:=F j;obtain⟨c,hc⟩:∃c:Nat,c=j/R:=⟨_,rfl⟩;rw[<-hc]at r y;have:=bT v (s j) (mo j) (H j oM).1 (Int.le_of_eq y) oM;omega
  omega
 ·rw[<-hu];exact L
end MP
end Q
end
