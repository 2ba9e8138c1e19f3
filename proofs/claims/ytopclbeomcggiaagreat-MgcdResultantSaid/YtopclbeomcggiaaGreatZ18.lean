/- Greatest common divisors of polynomials exist (Gauss). No program in sight. -/
import Derived.Test.YtopclbeomcggiaaGreatZ01
set_option linter.unusedVariables false
set_option linter.unusedSimpArgs false
set_option maxHeartbeats 16000000
set_option maxRecDepth 100000
section
namespace Q
namespace MP
structure ry (g a b:MP):Prop where
 l:g∣a
 r:g∣b
 u:∀d,d∣a->d∣b->d∣g
def lo (n:Nat) (p:MP):Prop:=∀w,n<=w->w<4->p.fr w
theorem Y7(p:MP):p.lo 4:=λw h b=>oM
theorem lo.mono{m n:Nat}(h:m<=n){p:MP}(hp:p.lo m):p.lo n:=λw d b=>hp w oM b
theorem rz(v:Nat):(0:MP).fr v:=by show(-1:Int)<=0;omega
theorem OJ(n:Nat):(0:MP).lo n:=λw _ _=>rz w
theorem rQ{a b:MP}{v:Nat}(ha:a.fr v)(hb:b.fr v):(a*b).fr v:=by
 by_cases d:a=0
 ·have:a*b=0:=gR;rw[this];exact rz v
 ·by_cases e:b=0
  ·have:a*b=0:=gR;rw[this];exact rz v
  ·show(a*b).deg v<=0;rw[deg_mul d e];have h:a.deg v<=0:=ha;have i:b.deg v<=0:=hb;omega
theorem lN{n:Nat}{a b:MP}(ha:a.lo n)(hb:b.lo n):(a*b).lo n:=λw d e=>rQ (ha w d e) (hb w d e)
theorem tV{a b:MP}{v:Nat}(hb:b≠0)(h:a∣b)(hf:b.fr v):a.fr v:=Int.le_trans (dvd_deg hb h v) hf
theorem jW{n:Nat}{a b:MP}(hb:b≠0)(h:a∣b)(hf:b.lo n):a.lo n:=λw d e=>tV hb h (hf w d e)
theorem tX(v:Nat)(a b:MP):(a+b).deg v<=max (a.deg v) (b.deg v):=by refine deg_le_of (by have:=deg_ge v a;omega) λn d=>?_;rw[co_add,co_above oM,co_above (p:=b) oM];grind
theorem Ik(v:Nat)(a:MP):(-a).deg v<=a.deg v:=by refine deg_le_of (deg_ge v a) λn b=>?_;rw[co_neg,co_above oM];grind
theorem qC(v:Nat)(a b:MP):(a-b).deg v<=max (a.deg v) (b.deg v):=by have e:a-b=a+-b:=gR;rw[e];have:=tX v a (-b);have:=Ik v b;omega
theorem SY{n:Nat}{a b:MP}(ha:a.lo n)(hb:b.lo n):(a-b).lo n:=λw d e=>by have:=qC w a b;have h:a.deg w<=0:=ha w d e;have i:b.deg w<=0:=hb w d e;show(a-b).deg w<=0;omega
theorem VQ(v:Nat):(1:MP).deg v=0:=by show max (-1) (Ex.get e0 v)=0;rw[CQ];rfl
theorem rR(v:Nat):(1:MP).fr v:=by show(1:MP).deg v<=0;rw[VQ];omega
theorem DF(n:Nat):(1:MP).lo n:=λw _ _=>rR w
theorem DI{d:MP}{v:Nat}(hd:d.fr v):d.co v 0=d:=by
 have:=split v d (N:=1) (by have h:d.deg v<=0:=hd;omega);rw[dA,dA]at this;have e:xk v 0=1:=ext' λx=>by rw[ev_xk,ev_one,Rat.pow_zero]
 rw[e]at this;grind
theorem MX{d:MP}{v:Nat}(hd:d.fr v){n:Nat}(b:0<n):d.co v n=0:=co_above (by have h:d.deg v<=0:=hd;omega)
theorem zX(v n:Nat)(p:MP){w:Nat}(d:w<4)(hv:v<4):(p.co v n).deg w<=max 0 (p.deg w):=by
 rcases(iO (λt=>t.1.get w) (p.co v n).l (-1)).2.2 with e|⟨t,b,e⟩
 ·show aH _ w<=_;unfold aH;rw[e];omega
 ·show aH _ w<=_;unfold aH;rw[<-e];have b:t∈(p.l.filter λu=>u.1.get v=(n:Int)).map λu=>(u.1.put v 0,u.2):=b;obtain⟨u,hu,rfl⟩:=List.mem_map.1 b;by_cases hc:v=w
  ·subst hc;show(u.1.put v 0).get v<=_;rw[Ex.get_put];omega
  ·show(u.1.put v 0).get w<=_;rw[Ex.get_put_ne _ hv d hc];have:=fw (List.mem_filter.1 hu).1 w;have h:p.deg w=aH p.l w:=rfl;omega
theorem JQ{n i:Nat}{p:MP}(j:n<4)(hp:p.lo (n+1)):(p.co n i).lo n:=λw d b=>by
 rcases Nat.eq_or_lt_of_le d with e|h
 ·subst e;exact co_fr _ _ _
 ·have:=zX n i p b j;have k:p.deg w<=0:=hp w h b;show(p.co n i).deg w<=0;omega
theorem yw{n:Nat}{p:MP}(hp:p.lo (n+1))(hf:p.fr n):p.lo n:=λw b d=>by
 rcases Nat.eq_or_lt_of_le b with e|h
 ·subst e;exact hf
 ·exact hp w h d
theorem Xl{n k:Nat}(d:n<4):(xk n k).lo (n+1):=λw e b=>by show max (-1) ((e0.put n k).get w)<=0;rw[Ex.get_put_ne _ d b oM,CQ];omega
theorem Ba{n:Nat}{p:MP}(b:n<4)(hp:p.lo (n+1)):(p.lc n).lo n:=JQ b hp
theorem oH{p:MP}(h:p.lo 0):∃r,p=c r:=by
 refine⟨cf p.l e0,eq_of (p.v.inj (aY.const _) λe=>?_)⟩;by_cases he:e=e0
 ·subst he;show _=cf (cK _) e0;unfold cK;split
  ·rename_i d;rw[d];rfl
  ·rw[bR,if_pos rfl,jL];grind
 ·rw[oQ (l:=p.l),oQ]
  ·intro t b;show t.1≠e;have b:t∈cK _:=b;unfold cK at b;split at b
   ·cases b
   ·rw[List.mem_singleton.1 b];exact λh=>he h.symm
  ·intro t b i;apply he;rw[<-i];have d:=fr_get (h 0 oM oM) b;have i:=fr_get (h 1 oM oM) b;have j:=fr_get (h 2 oM oM) b;have k:=fr_get (h 3 oM oM) b;exact Ex.ext' d i j k
theorem lC(r s:Rat):c r*c s=c (r*s):=ext' λx=>by rw[ev_mul,ev_c,ev_c,ev_c]
theorem S9:c 0=0:=rfl
theorem DJ:c 1=1:=rfl
theorem DK{r:Rat}(h:r≠0):(c r).unit:=⟨c r⁻¹,by rw[lC,Rat.mul_inv_cancel _ h];rfl⟩
theorem Ta{p:MP}(h:p.lo 0)(hp:p≠0):p.unit:=by obtain⟨r,rfl⟩:=oH h;exact DK λe=>hp (by rw[e];rfl)
theorem tY{p:MP}(h:p.unit):p≠0:=dvd_ne one_ne h
theorem Tc{p:MP}(h:p.unit):p.lo 0:=jW one_ne h (DF 0)
def mG (n:Nat):Prop:=∀a b:MP,a.lo n->b.lo n->∃g,g.lo n/\ry g a b
theorem VR:mG 0:=λa b ha hb=>by
 by_cases h:a=0
 ·exact⟨b,hb,by rw[h];exact dvd_zero b,dvd_refl b,λd _ h=>h⟩
 ·exact⟨1,DF 0,unit_dvd unit_one a,unit_dvd unit_one b,λd e _=>unit_of_dvd e (Ta ha h)⟩
structure mX (v:Nat) (c p:MP):Prop where
 f:c.fr v
 d:c∣p
 u:∀d,d.fr v->d∣p->d∣c
def prim (v:Nat) (p:MP):Prop:=∀d,d.fr v->d∣p->d.unit
theorem fG{v:Nat}{p:MP}(h:p.prim v):p≠0:=λe=>by have:=h 0 (rz v) (by rw[e];exact dvd_refl 0);exact tY this rfl
theorem sD{v:Nat}{p q:MP}(h:p.prim v)(hd:q∣p):q.prim v:=λd b e=>h d b (dvd_trans e hd)
variable {n:Nat}
theorem Zl(G:mG n)(f:Nat->MP):∀N:Nat,(∀i,i<N->(f i).lo n)->∃g,g.lo n/\(∀i,i<N->g∣f i)/\∀d,(∀i,i<N->d∣f i)->d∣g
 | 0,_=>⟨0,OJ n,λi h=>by omega,λd _=>dvd_zero d⟩
 | N+1,h=>by
  obtain⟨g,j,m,o⟩:=Zl G f N λi e=>h i oM;obtain⟨k,p,b⟩:=G g (f N) j (h N oM);refine⟨k,p,λi e=>?_,λd hd=>b.u d (o d λi e=>hd i oM) (hd N oM)⟩;rcases Nat.lt_or_ge i N with h|h
  ·exact dvd_trans b.l (m i h)
  ·obtain rfl:i=N:=oM;exact b.r
theorem OL(G:mG n)(j:n<4){p:MP}(hp:p.lo (n+1)):∃c,c.lo n/\mX n c p:=by
 obtain⟨g,e,k,l⟩:=Zl G (λi=>p.co n i) ((p.deg n).toNat+1) λi _=>JQ j hp;have hf:g.fr n:=e n (nL _) j;refine⟨g,e,hf,(dvd_iff_co hf p).2 λi=>?_,λd hd b=>l d λi _=>(dvd_iff_co hd p).1 b i⟩;rcases Nat.lt_or_ge i ((p.deg n).toNat+1)with h|h
 ·exact k i h
 ·rw[co_above (by have:=deg_ge n p;omega)];exact dvd_zero g
theorem jE{v:Nat}{c p:MP}(h:mX v c p)(hp:p≠0):∃q,p=c*q/\q.prim v/\c≠0:=by obtain⟨q,e⟩:=h.d;have hc:c≠0:=λb=>hp (by rw[e,b];grind);refine⟨q,e,λd hd ⟨x,e2⟩=>?_,hc⟩;have i:=h.u (c*d) (rQ h.f hd) ⟨x,by rw[e,e2];grind⟩;exact unit_cancel hc i
theorem mH(G:mG n)(k:n<4){p:MP}(hp:p.lo (n+1))(b:p≠0):∃c q,p=c*q/\c.lo n/\c≠0/\q.prim n/\q.lo (n+1)/\mX n c p:=by obtain⟨c,h,d⟩:=OL G k hp;obtain⟨q,e,i,j⟩:=jE d b;exact⟨c,q,e,h,j,i,jW b (by rw[e];exact dvd_mul_left _ _) hp,d⟩
theorem X7(G:mG n){c s t:MP}(hc:c.lo n)(m:s.lo n)(i:t.lo n)(e:t≠0)(h:∀d,d∣c->d∣s->d.unit)(hd:c∣s*t):c∣t:=by obtain⟨k,_,b⟩:=G (t*c) (t*s) (lN i hc) (lN i m);obtain⟨u,rfl⟩:=b.u t (dvd_mul_right _ _) (dvd_mul_right _ _);have hu:=h u (dvd_cancel e b.l) (dvd_cancel e b.r);have j:=b.u c (dvd_mul_left _ _) (by rw[(gR:t*s=s*t)];exact hd);obtain⟨w,o⟩:=hu;refine dvd_trans j ⟨w,?_⟩;grind
theorem Il(G:mG n)(q:n<4){h e d:MP}(o:h.prim n)(k:(e*h).lo (n+1))(he:e.fr n)(hd:d.fr n)(j:d∣e*h):d∣e:=by
 by_cases i:e=0
 ·rw[i];exact dvd_zero d
 ·obtain⟨c,_,b⟩:=OL G q k;obtain⟨u,rfl⟩:=b.u e he (dvd_mul_right _ _);have l:e*h≠0:=mul_ne i (fG o);have m:u∣h:=dvd_cancel i b.d;have hu:u.unit:=o u (tV (λp=>dvd_ne l b.d p) (dvd_mul_left u e) b.f) m;obtain⟨w,r⟩:=hu;exact dvd_trans (b.u d hd j) ⟨w,gR⟩
theorem xm(v:Nat){p q:MP}(hp:p≠0)(hq:q≠0):(p*q).co v ((p.deg v).toNat+(q.deg v).toNat)=p.lc v*q.lc v:=Qk λf=>by
 have b:=deg_pos hp v;have d:=deg_pos hq v;have e1:((p.deg v).toNat:Int)=aH p.l v:=by show((aH p.l v).toNat:Int)=_;exact Int.toNat_of_nonneg b
 have e2:((q.deg v).toNat:Int)=aH q.l v:=by show((aH q.l v).toNat:Int)=_;exact Int.toNat_of_nonneg d
 have:=AZ (p:=p.l) (q:=q.l) v f;rw[lf_mul,<-qw];show Lf f (aG (canon (prods p.l q.l)) v _)=Lf f (prods (aG p.l v _) (aG q.l v _));rw[e1,e2,<-this];rw[Int.natCast_add,e1,e2,fC,fC];exact jA (p.v.nat.prods q.v.nat) _
theorem Td{p:MP}(v:Nat):(p-p.lc v*xk v (p.deg v).toNat).deg v<=p.deg v-1\/p=0:=by
 by_cases b:p=0
 ·exact .inr b
 ·refine .inl (deg_le_of (by have:=deg_pos b v;omega) λk h=>?_);have d:=deg_pos b v;rw[co_sub,co_mul_fr (lc_fr v p)];have e:xk v (p.deg v).toNat=xk v (p.deg v).toNat * 1:=gR;rw[e,co_xk,if_pos oM];rcases Nat.eq_or_lt_of_le (oM:(p.deg v).toNat<=k)with e|hlt
  ·rw[<-e,Nat.sub_self,DI (rR v)];show p.lc v-_=0;grind
  ·rw[MX (rR v) oM,co_above oM];grind
theorem Te(G:mG n)(k:n<4)(N:Nat)
  (H:∀f g:MP,f.lo (n+1)->g.lo (n+1)->f.prim n->g.prim n->(f.deg n).toNat+(g.deg n).toNat<N->(f*g).prim n)
  {f g:MP} (u:f.lo (n+1)) (x:g.lo (n+1)) (o:f.prim n) (z:g.prim n) (J:(f.deg n).toNat+(g.deg n).toNat<=N) {c:MP} (hc:c.fr n) (hd:c∣f*g):∀d,d∣c->d∣f.lc n->d.unit:=by
 intro d r l;have f0:=fG o;have B:=fG z;have i:d.fr n:=tV (dvd_ne (mul_ne f0 B) hd) r hc;have j:=Td (p:=f) n;obtain⟨f1,e1⟩:∃f1,f1=f - f.lc n*xk n (f.deg n).toNat:=⟨_,rfl⟩;rw[<-e1]at j;have s:f1.deg n<=f.deg n - 1:=j.resolve_right f0
 have C:d∣f1*g:=by
  have e:f1*g=f*g-f.lc n*(xk n (f.deg n).toNat * g):=by rw[e1];grind
  rw[e];exact dvd_sub (dvd_trans r hd) (dvd_mul_of l _)
 have b:f=f1+f.lc n*xk n (f.deg n).toNat:=by rw[e1];grind
 by_cases hz:f1=0
 ·refine o d i ?_;rw[b,hz];exact dvd_add (dvd_zero d) (dvd_mul_of l _)
 ·have I:f1.lo (n+1):=by
   rw[e1];exact SY u (lN (lo.mono oM (Ba k u)) (Xl k))
  obtain⟨e,q,eq,he,E,hq,y,_⟩:=mH G k I hz;have F:q.deg n<=f1.deg n:=dvd_deg hz (by rw[eq];exact dvd_mul_left _ _) n;have hp:=H q g y x hq z (by have:=deg_pos f0 n;have:=deg_pos (fG hq) n;omega);have m:e.fr n:=he n (nL _) k
  have D:d∣e:=Il G k (h:=q*g) (e:=e) hp (lN (lo.mono oM he) (lN y x)) m i (by
   have:e*(q*g)=f1*g:=by rw[eq];grind
   rw[this];exact C)
  refine o d i ?_;rw[b];refine dvd_add ?_ (dvd_mul_of l _);rw[eq];exact dvd_mul_of D _
theorem Xm(G:mG n)(b:n<4):∀(N:Nat)(f g:MP),f.lo (n+1)->g.lo (n+1)->f.prim n->g.prim n->(f.deg n).toNat+(g.deg n).toNat<N->(f*g).prim n
 | 0,_,_,_,_,_,_,h=>by omega
 | N+1,f,g,lf,lg,pf,pg,hN=>λc hc hd=>by
  have l:=Xm G b N;have a1:=Te G b N l lf lg pf pg oM hc hd
  have a2:=Te G b N l lg lf pg pf oM hc (by
   have e:g*f=f*g:=gR
   rw[e];exact hd)
  have f0:=fG pf;have d:=fG pg;have i:=mul_ne f0 d;have j:c∣f.lc n*g.lc n:=by rw[<-xm n f0 d];exact(dvd_iff_co hc _).1 hd _
  have k:c.lo n:=yw (jW i hd (lN lf lg)) hc;have:=X7 G k (Ba b lf) (Ba b lg) (lc_ne d n) a1 j;exact a2 c (dvd_refl c) this
theorem JR(G:mG n)(b:n<4){f g:MP}(d:f.lo (n+1))(e:g.lo (n+1))(h:f.prim n)(i:g.prim n):(f*g).prim n:=Xm G b _ f g d e h i (Nat.lt_succ_self _)
theorem BL(G:mG n)(b:n<4){f g c:MP}(j:f.lo (n+1))(o:g.lo (n+1))(p:f.prim n)(hc:c.fr n)(hd:c∣f*g):c∣g:=by
 by_cases i:g=0
 ·rw[i];exact dvd_zero c
 ·obtain⟨e,q,rfl,he,m,hq,k,_⟩:=mH G b o i;have d:e.fr n:=he n (nL _) b
  have l:=Il G b (h:=f*q) (e:=e) (JR G b j k p hq) (lN (lo.mono oM he) (lN j k)) d hc (by
   have:e*(f*q)=f*(e*q):=gR
   rw[this];exact hd)
  exact dvd_mul_of l _
theorem iL(G:mG n)(j:n<4){f g c:MP}(m:g.lo (n+1))(p:f.prim n)(hc:c.lo n)(i:c≠0)(hd:f∣c*g):f∣g:=by
 by_cases hg:g=0
 ·rw[hg];exact dvd_zero f
 ·obtain⟨h,e⟩:=hd;have b:=mul_ne i hg;have d:(c*g).lo (n+1):=lN (lo.mono oM hc) m;have o:h.lo (n+1):=jW b (by rw[e];exact dvd_mul_left _ _) d;have l:f.lo (n+1):=jW b (by rw[e];exact dvd_mul_right _ _) d;obtain⟨k,rfl⟩:=BL G j l o p (hc n (nL _) j) (by rw[<-e];exact dvd_mul_right _ _);exact⟨k,cancel i (by rw[e];grind)⟩
def red (v:Nat) (p q:MP):MP:=q.lc v*p-p.lc v*(xk v ((p.deg v).toNat-(q.deg v).toNat)*q)
theorem VS{v:Nat}{p q:MP}(hp:p≠0)(hq:q≠0)(h:q.deg v<=p.deg v)(b:0<p.deg v):(red v p q).deg v<=p.deg v-1:=by
 have a1:=deg_pos hq v;refine deg_le_of oM λk d=>?_;rw[red,co_sub,co_mul_fr (lc_fr v q),co_mul_fr (lc_fr v p),co_xk,if_pos oM];rcases Nat.eq_or_lt_of_le (oM:(p.deg v).toNat<=k)with e|hlt
 ·have e2:k-((p.deg v).toNat-(q.deg v).toNat)=(q.deg v).toNat:=oM;rw[e2,<-e];show q.lc v*p.lc v-p.lc v*q.lc v=0;grind
 ·rw[co_above (p:=p) oM,co_above (p:=q) oM];grind
theorem X8(b:n<4){p q:MP}(hp:p.lo (n+1))(hq:q.lo (n+1)):(red n p q).lo (n+1) :=
 SY (lN (lo.mono oM (Ba b hq)) hp) (lN (lo.mono oM (Ba b hp)) (lN (Xl b) hq))
theorem JS(G:mG n)(i:n<4):∀(N:Nat)(p q:MP),p.lo (n+1)->q.lo (n+1)->p.prim n->q.prim n->(p.deg n).toNat+(q.deg n).toNat<N->∃h,h.lo (n+1)/\ry h p q
 | 0,_,_,_,_,_,_,h=>by omega
 | N+1,p,q,m,j,s,b,D=>by
  have B:=fG s;have x:=fG b
  have key:∀p q:MP,p.lo (n+1)->q.lo (n+1)->p.prim n->q.prim n->(p.deg n).toNat+(q.deg n).toNat<N+1->q.deg n<=p.deg n->∃h,h.lo (n+1)/\ry h p q:=by
   intro p q m j s b D mR;have B:=fG s;have x:=fG b;rcases Int.lt_or_le 0 (q.deg n)with hq|hq
   ·have E:=VS B x mR oM;have C:q.lc n*p=red n p q+p.lc n*(xk n ((p.deg n).toNat-(q.deg n).toNat)*q):=by unfold red;grind
    by_cases hz:red n p q=0
    ·refine⟨q,j,iL G i m b (Ba i j) (lc_ne x n) ?_,dvd_refl q,λd _ h=>h⟩;rw[C,hz];exact dvd_add (dvd_zero q) (dvd_mul_of' (dvd_mul_left _ _) _)
    ·obtain⟨e,r,eq,he,z,F,lr,_⟩:=mH G i (X8 i m j) hz;have H:r.deg n<=(red n p q).deg n:=dvd_deg hz (by rw[eq];exact dvd_mul_left _ _) n;obtain⟨h,J,o⟩:=JS G i N q r j lr b F (by have:=deg_pos B n;have:=deg_pos (fG F) n;omega);refine⟨h,J,iL G i m (sD b o.l) (Ba i j) (lc_ne x n) ?_,o.l,λd y k=>o.u d k ?_⟩
     ·rw[C];refine dvd_add ?_ (dvd_mul_of' (dvd_trans o.l (dvd_mul_left _ _)) _);rw[eq];exact dvd_trans o.r (dvd_mul_left _ _)
     ·refine iL G i lr (sD b k) he z ?_;rw[<-eq];unfold red;exact dvd_sub (dvd_mul_of' y _) (dvd_mul_of' (dvd_mul_of' k _) _)
   ·have hu:q.unit:=b q hq (dvd_refl q);exact⟨1,DF _,unit_dvd unit_one p,unit_dvd unit_one q,λd _ k=>unit_of_dvd k hu⟩
  rcases Int.le_total (q.deg n) (p.deg n)with h|h
  ·exact key p q m j s b D h
  ·obtain⟨g,I,hg⟩:=key q p j m b s oM h;exact⟨g,I,hg.r,hg.l,λd y k=>hg.u d k y⟩
theorem JU(i:n<4)(G:mG n):mG (n+1):=λa b la lb=>by
 by_cases ha:a=0
 ·exact⟨b,lb,by rw[ha];exact dvd_zero b,dvd_refl b,λd _ h=>h⟩
 by_cases hb:b=0
 ·exact⟨a,la,dvd_refl a,by rw[hb];exact dvd_zero a,λd h _=>h⟩
 obtain⟨c,p,rfl,hc,c0,I,z,D⟩:=mH G i la ha;obtain⟨d,q,rfl,hd,d0,J,B,o⟩:=mH G i lb hb;obtain⟨g,E,hg⟩:=G c d hc hd;obtain⟨h,F,m⟩:=JS G i _ p q z B I J (Nat.lt_succ_self _);refine⟨g*h,lN (lo.mono oM E) F,mul_dvd hg.l m.l,mul_dvd hg.r m.r,λx k s=>?_⟩;have K:=dvd_ne ha k;have H:=jW ha k la;obtain⟨e,y,rfl,he,e0,C,L,_⟩:=mH G i H K;have j:e.fr n:=he n (nL _) i;refine mul_dvd (hg.u e ?_ ?_) (m.u y ?_ ?_)
 ·exact D.u e j (dvd_trans (dvd_mul_right _ _) k)
 ·exact o.u e j (dvd_trans (dvd_mul_right _ _) s)
 ·exact iL G i z C hc c0 (dvd_trans (dvd_mul_left _ _) k)
 ·exact iL G i B C hd d0 (dvd_trans (dvd_mul_left _ _) s)
theorem zY:∀n,n<=4->mG n
 | 0,_=>VR
 | n+1,h=>JU (by omega) (zY n (by omega))
end MP
end Q
end
section
namespace Q
theorem dS{f g:Nat->MP}:∀{n:Nat},(∀i,i<n->f i=g i)->dA f n=dA g n
 | 0,_=>rfl
 | n+1,h=>by rw[dA,dA,dS λi b=>h i (by omega),h n (by omega)]
theorem nK:∀n:Nat,dA (λ_=>0) n=0
 | 0=>rfl
 | n+1=>by rw[dA,nK n];grind
theorem DL(f g:Nat->MP):∀n:Nat,dA (λi=>f i+g i) n=dA f n+dA g n
 | 0=>by simp only[dA];grind
 | n+1=>by simp only[dA];rw[DL f g n];grind
theorem sF(c:MP)(f:Nat->MP):∀n:Nat,dA (λi=>c*f i) n=c*dA f n
 | 0=>by simp only[dA];grind
 | n+1=>by simp only[dA];rw[sF c f n];grind
theorem JV(f:Nat->MP)(n:Nat):dA (λi=>- f i) n=- dA f n:=by have:=sF (-1) f n;have e:(λi=>(-1:MP)*f i)=λi=>- f i:=funext λi=>gR;rw[e]at this;rw[this];grind
def sG (k j:Nat):Nat:=if j<k then j else j+1
def uns (k j:Nat):Nat:=if j<k then j else j-1
theorem OM(k j:Nat):uns k (sG k j)=j:=by
 unfold uns sG;by_cases h:j<k
 ·rw[if_pos h,if_pos h]
 ·rw[if_neg h,if_neg oM];omega
theorem Tf(k j:Nat):sG k j≠k:=by unfold sG;split<;>omega
theorem DN{k j n:Nat}(h:j<n):sG k j<n+1:=by unfold sG;split<;>omega
theorem JW(f:Nat->MP):∀{n k:Nat},k<n+1->dA f (n+1)=f k+dA (λj=>f (sG k j)) n
 | 0,k,h=>by obtain rfl:k=0:=oM;simp only[dA];grind
 | n+1,k,h=>by
  rcases Nat.eq_or_lt_of_le (oM:k<=n+1)with e|hk
  ·subst e;rw[dA,dS (f:=λj=>f (sG (n+1) j)) (g:=f) λi b=>by simp only[sG,if_pos b]];grind
  ·rw[dA,JW f (k:=k) oM,dA,show sG k n=n+1 from by unfold sG;rw[if_neg oM]];grind
theorem X9{P:MP->Prop}(y:P 1)(ha:∀a b,P a->P b->P (a+b))(hm:∀a b,P a->P b->P (a*b))(z:∀a,P a->P (-a)) :
  ∀(e n:Nat)(M:Nat->Nat->MP),(∀i j,i<e->j<n->P (M i j))->e<n->∃s:Nat->MP,(∀j,j<n->P (s j))/\(∃j,j<n/\s j≠0)/\∀i,i<e->dA (λj=>s j*M i j) n=0:=by
 have D:P 0:=by have:=ha 1 (-1) y (z 1 y);have e:(1:MP)+-1=0:=gR;rwa[e]at this
 have F:∀(f:Nat->MP) n,(∀j,j<n->P (f j))->P (dA f n):=by
  intro f n
  induction n with
  | zero=>intro _;exact D
  | succ n u=>intro h;exact ha _ _ (u λj d=>h j oM) (h n oM)
 intro e
 induction e with
 | zero=>intro n M _ p;exact⟨λ_=>1,λ_ _=>y,⟨0,p,MP.one_ne⟩,λi r=>oM⟩
 | succ e u =>
  intro n M l p;by_cases hz:∀j,j<n->M e j=0
  ·obtain⟨s,x,I,C⟩:=u n M (λi j r d=>l i j oM d) oM;refine⟨s,x,I,λi r=>?_⟩;rcases Nat.eq_or_lt_of_le (oM:i<=e)with o|hi'
   ·subst o;rw[dS (g:=λ_=>0) λj d=>by rw[hz j d];grind];exact nK n
   ·exact C i hi'
  ·have ⟨k,hk⟩:=Classical.not_forall.1 hz;have ⟨hkn,hk0⟩:=Classical.not_imp.1 hk;obtain⟨m,rfl⟩:∃m,n=m+1:=⟨n - 1,oM⟩
   obtain⟨s,x,⟨B,G,H⟩,C⟩:=u m (λi j=>M e k*M i (sG k j) - M i k*M e (sG k j)) (λi j r d=>by
    have a1:=hm _ _ (l e k oM hkn) (l i (sG k j) oM (DN d));have a2:=z _ (hm _ _ (l i k oM hkn) (l e (sG k j) oM (DN d)));have:=ha _ _ a1 a2;have o:M e k*M i (sG k j)-M i k*M e (sG k j)=M e k*M i (sG k j)+-(M i k*M e (sG k j)):=gR;show P (M e k*M i (sG k j)-M i k*M e (sG k j))
    rw[o];exact this) oM
   refine⟨λj=>if j=k then-dA (λj=>s j*M e (sG k j)) m else M e k*s (uns k j),λj d=>?_,⟨sG k B,DN G,?_⟩,λi r=>?_⟩
   ·show P (if j=k then _ else _);split
    ·exact z _ (F _ _ λj d=>hm _ _ (x j d) (l e _ oM (DN d)))
    ·rename_i E;refine hm _ _ (l e k oM hkn) (x _ ?_);unfold uns;split<;>omega
   ·show(if sG k B=k then _ else _)≠_;rw[if_neg (Tf k B),OM];exact MP.mul_ne hk0 H
   ·rw[JW _ hkn];simp only[if_pos,if_neg (Tf k _),OM]
    have q:dA (λj=>s j*(M e k*M i (sG k j)-M i k*M e (sG k j))) m=M e k*dA (λj=>s j*M i (sG k j)) m-M i k*dA (λj=>s j*M e (sG k j)) m:=by rw[<-sF,<-sF];have:∀a b:MP,a-b=a+-b:=λa b=>gR;rw[this,<-JV,<-DL];exact dS λj _=>gR
    have e2:dA (λj=>M e k*s j*M i (sG k j)) m=M e k*dA (λj=>s j*M i (sG k j)) m:=by rw[<-sF];exact dS λj _=>gR
    rw[e2];rcases Nat.eq_or_lt_of_le (oM:i<=e)with o|hi'
    ·subst o;grind
    ·have:=C i hi';rw[q]at this;grind
theorem Ya{A B:Nat}(f:Nat->Nat)(h:∀a,a<A->f a<B)(j:B<A):∃a b,a<A/\b<A/\a≠b/\f a=f b:=by
 rcases Classical.em (∃a b,a<A/\b<A/\a≠b/\f a=f b)with hh|hh
 ·exact hh
 ·exfalso
  have d:((List.range A).map f).Nodup:=by rw[List.Nodup,List.pairwise_map];refine List.Pairwise.imp_of_mem ?_ (List.pairwise_lt_range (n:=A));intro a b ha hb i e;exact hh ⟨a,b,List.mem_range.1 ha,List.mem_range.1 hb,oM,e⟩
  have:=d.length_le_of_subset (l₂:=List.range B) (λx k=>by
   obtain⟨a,ha,rfl⟩:=List.mem_map.1 k
   exact List.mem_range.2 (h a (List.mem_range.1 ha)))
  simp at this;omega
def DR (X:Nat):Nat->Nat->Nat
 | a,0=>a%X
 | a,j+1=>DR X (a/X) j
theorem DT{X:Nat}(b:0<X):∀(a j:Nat),DR X a j<X
 | a,0=>Nat.mod_lt _ b
 | a,j+1=>DT b (a/X) j
theorem Io{X:Nat}(i:0<X):∀(n a b:Nat),a<X^n->b<X^n->(∀j,j<n->DR X a j=DR X b j)->a=b
 | 0,a,b,ha,hb,_=>by simp at ha hb;omega
 | n+1,a,b,ha,hb,h=>by have d:=h 0 oM;have e:=Io i n (a/X) (b/X) (Nat.div_lt_of_lt_mul (by rwa[Nat.mul_comm,<-Nat.pow_succ])) (Nat.div_lt_of_lt_mul (by rwa[Nat.mul_comm,<-Nat.pow_succ])) λj k=>h (j+1) oM;simp only[DR]at d;have:=Nat.div_add_mod a X;have:=Nat.div_add_mod b X;rw[e,d]at *;omega
def pG (W:Nat) (y:Nat->Nat):Nat->Nat
 | 0=>0
 | n+1=>y 0+W*pG W (λi=>y (i+1)) n
theorem yx{W:Nat}:∀(n:Nat)(y:Nat->Nat),(∀i,i<n->y i<W)->pG W y n<W^n
 | 0,_,_=>by simp[pG]
 | n+1,y,h=>by have b:=h 0 oM;have:=yx n (λi=>y (i+1)) λi d=>h (i+1) oM;rw[pG,Nat.pow_succ,Nat.mul_comm (W^n)];have:W*(pG W (λi=>y (i+1)) n+1)<=W*W^n:=Nat.mul_le_mul_left W this;rw[Nat.mul_succ]at this;omega
theorem Gi{W:Nat}:∀(n:Nat)(y z:Nat->Nat),(∀i,i<n->y i<W)->(∀i,i<n->z i<W)->pG W y n=pG W z n->∀i,i<n->y i=z i
 | 0,_,_,_,_,_=>λi b=>by omega
 | n+1,y,z,hy,hz,h=>λi b=>by
  have d:=hy 0 oM;have e:=hz 0 oM;rw[pG,pG]at h
  have e1:y 0=z 0:=by have:=congrArg (· % W) h;simp only[Nat.add_mul_mod_self_left,Nat.mod_eq_of_lt d,Nat.mod_eq_of_lt e]at this;exact this
  have e2:=Nat.eq_of_mul_eq_mul_left (oM:0<W) (show W*pG W (λi=>y (i+1)) n=W*pG W (λi=>z (i+1)) n by omega)
  cases i with
  | zero=>exact e1
  | succ i=>exact Gi n _ _ (λi b=>hy (i+1) oM) (λi b=>hz (i+1) oM) e2 i oM
def xn (f:Nat->Int):Nat->Int
 | 0=>0
 | n+1=>xn f n+f n
theorem JX(f g:Nat->Int):∀n,xn (λi=>f i-g i) n=xn f n-xn g n
 | 0=>rfl
 | n+1=>by simp only[xn];rw[JX f g n];omega
theorem JY{f:Nat->Int}{K:Nat}:∀{n:Nat},(∀i,i<n->(f i).natAbs<=K)->(xn f n).natAbs<=n*K
 | 0,_=>by simp[xn]
 | n+1,h=>by have b:=JY (n:=n) λi e=>h i oM;have d:=h n oM;rw[xn,Nat.succ_mul];omega
theorem Yb{e n H X:Nat}(M:Nat->Nat->Int)(B:∀i j,i<e->j<n->(M i j).natAbs<=H)(k:(2*(n*(X*H))+1)^e<(X+1)^n) :
  ∃s:Nat->Int,(∀j,(s j).natAbs<=X)/\(∃j,j<n/\s j≠0)/\∀i,i<e->xn (λj=>s j*M i j) n=0:=by
 have hb:∀(a i:Nat),i<e->(xn (λj=>(DR (X+1) a j:Int)*M i j) n).natAbs<=n*(X*H):=λa i d=>JY λj q=>by rw[Int.natAbs_mul,Int.natAbs_natCast];exact Nat.mul_le_mul (by have:=DT (X:=X+1) oM a j;omega) (B i j d q)
 obtain⟨Z,m⟩:∃Z,Z=n*(X*H):=⟨_,rfl⟩;rw[<-m]at k
 let y:Nat->Nat->Nat:=λa i=>(xn (λj=>(DR (X+1) a j:Int)*M i j) n+Z).toNat
 have u:∀a i,i<e->y a i<2*Z+1:=λa i d=>by have:=hb a i d;rw[<-m]at this;show Int.toNat _<_;omega
 obtain⟨a,b,ha,p,r,o⟩:=Ya (λa=>pG (2*Z+1) (y a) e) (λa _=>yx e _ λi d=>u a i d) k;have d:=Gi e _ _ (λi d=>u a i d) (λi d=>u b i d) o;refine⟨λj=>(DR (X+1) a j:Int) - DR (X+1) b j,λj=>?_,?_,λi h=>?_⟩
 ·have:=DT (X:=X+1) oM a j;have:=DT (X:=X+1) oM b j;show Int.natAbs (_-_)<=X;omega
 ·rcases Classical.em (∃j,j<n/\DR (X+1) a j≠DR (X+1) b j)with ⟨j,l,x⟩|hh
  ·exact⟨j,l,by show _-_≠(0:Int);omega⟩
  ·exfalso;apply r;refine Io oM n a b ha p λj q=>?_;rcases Classical.em (DR (X+1) a j=DR (X+1) b j)with h|h
   ·exact h
   ·exact absurd ⟨j,q,h⟩ hh
 ·have l:=d i h;have x:=hb a i h;have z:=hb b i h;rw[<-m]at x z;have l:Int.toNat _=Int.toNat _:=l;have:xn (λj=>(DR (X+1) a j:Int)*M i j) n=xn (λj=>(DR (X+1) b j:Int)*M i j) n:=oM;rw[show(λj=>((DR (X+1) a j:Int)-DR (X+1) b j)*M i j)=λj=>(DR (X+1) a j:Int)*M i j-(DR (X+1) b j:Int)*M i j from funext λj=>Int.sub_mul _ _ _,JX,this];omega
end Q
end
section
namespace Q
namespace MP
inductive Sq (v:Nat) (p q:MP):MP->MP->Prop
 | base:Sq v p q p q
 | step {x y z k t e:MP}:Sq v p q x y->y≠0->k≠0->k.lo v->e≠0->e.fr v->k*x=t*y+e*z->z.deg v<y.deg v->Sq v p q y z
theorem uV{a:MP}{v:Nat}(h:a.fr v)(b:a≠0):a.deg v=0:=by have:=deg_pos b v;have d:a.deg v<=0:=h;omega
theorem Gj{v:Nat}{x y z k t e f S T c:MP}(m:y≠0)(k0:k≠0)(e0:e≠0)(r:e.fr v)(D:k.fr v)(q:k*x=t*y+e*z)(C:z.deg v<y.deg v)
  {K:Int} (hf:f.deg v<=K) (F:K<y.deg v) (c0:c≠0) (cf:c.fr v) (hc:c*f=S*x+T*y) (G:S=0\/S.deg v<y.deg v-K) (p:S≠0\/T≠0) :
  (k*c)*f=(S*t+k*T)*y+(S*e)*z/\(S*t+k*T=0\/(S≠0/\(S*t+k*T).deg v+y.deg v<=S.deg v+z.deg v))/\(S*t+k*T≠0\/S*e≠0):=by
 have j:(k*c)*f=(S*t+k*T)*y+(S*e)*z:=by
  have i:(k*c)*f=S*(k*x)+k*T*y:=by have:(k*c)*f=k*(c*f):=gR;rw[this,hc];grind
  rw[i,q];grind
 refine⟨j,?_,?_⟩
 ·by_cases n:S*t+k*T=0
  ·exact .inl n
  ·refine .inr ?_;have o:(S*t+k*T)*y=(k*c)*f-(S*e)*z:=by rw[j];grind
   have hd:=deg_mul n m v;have i:=qC v ((k*c)*f) ((S*e)*z);rw[<-o,hd]at i;have u:=deg_pos n v
   have E:((k*c)*f).deg v<=max K (-1):=by
    by_cases l:f=0
    ·have d:(k*c)*f=0:=by rw[l];grind
     rw[d,deg_zero];omega
    ·rw[deg_mul (mul_ne k0 c0) l,uV (rQ D cf) (mul_ne k0 c0)];omega
   by_cases b:S=0
   ·exfalso;have d:(S*e)*z=0:=by rw[b];grind
    rw[d,deg_zero]at i;have:=deg_pos m v;omega
   ·refine⟨b,?_⟩;by_cases hz:z=0
    ·exfalso;have d:(S*e)*z=0:=by rw[hz];grind
     rw[d,deg_zero]at i;have:=deg_pos m v;omega
    ·have s:((S*e)*z).deg v=S.deg v+z.deg v:=by
      rw[deg_mul (mul_ne b e0) hz,deg_mul b e0,uV r e0];omega
     rw[s]at i;have:=deg_pos m v;omega
 ·by_cases b:S=0
  ·have B:=p.resolve_left λh=>h b;have d:S*t+k*T=k*T:=by rw[b];grind
   rw[d];exact .inl (mul_ne k0 B)
  ·exact .inr (mul_ne b e0)
theorem Sq.comb{v:Nat}(hv:v<4){p q x y:MP}(h:Sq v p q x y){S T f:MP}(hf:f=S*p+T*q){K:Int}(i:f.deg v<=K)(r:S=0\/S.deg v<q.deg v-K)(k:S≠0\/T≠0) :
  K<y.deg v->∃c b T':MP,c≠0/\c.lo v/\c*f=b*x+T'*y/\(b=0\/b.deg v<y.deg v-K)/\(b≠0\/T'≠0):=by
 induction h with
 | base=>exact λ_=>⟨1,S,T,one_ne,DF v,by rw[hf];grind,r,k⟩
 | step _ u k0 m e0 o l j s =>
  intro B;obtain⟨c,b,T',c0,cf,hc,d,e⟩:=s oM;obtain⟨a1,a2,n⟩:=Gj u k0 e0 o (m v (nL v) hv) l j i oM c0 (cf v (nL v) hv) hc d e;refine⟨_,_,_,mul_ne k0 c0,lN m cf,a1,?_,n⟩;rcases a2 with a2|⟨b1,z⟩
  ·exact .inl a2
  ·rcases d with h|h
   ·exact absurd h b1
   ·exact .inr oM
theorem Sq.dvd{v:Nat}(hv:v<4){p q x y z k t e:MP}(h:Sq v p q x y)(G:y≠0)(k0:k≠0)(u:k.lo v)(e0:e≠0)(C:e.fr v)(r:k*x=t*y+e*z)(n:z.deg v<y.deg v)(H:z≠0)
  {S T f:MP} (hf:f=S*p+T*q) {K:Int} (j:f.deg v<=K) (E:S=0\/S.deg v<q.deg v-K) (o:S≠0\/T≠0) (s:K<y.deg v) (F:z.deg v<=K) :
  f≠0/\∃c,c≠0/\c.lo v/\z∣c*f:=by
 obtain⟨c,d,T',c0,cf,hc,i,l⟩:=h.comb hv hf j E o s;obtain⟨a1,a2,B⟩:=Gj G k0 e0 C (u v (nL v) hv) r n j s c0 (cf v (nL v) hv) hc i l
 have b:d*t+k*T'=0:=by
  by_cases b:d*t+k*T'=0
  ·exact b
  ·exfalso;obtain⟨b1,I⟩:=a2.resolve_left b;rcases i with h|h
   ·exact b1 h
   ·have:=deg_pos b v;omega
 rw[b]at a1;have e1:(0:MP)*y+d*e*z=d*e*z:=gR;rw[e1]at a1;refine⟨λD=>?_,_,mul_ne k0 c0,lN u cf,⟨d*e,by rw[a1];grind⟩⟩;rw[D]at a1;have e2:k*c*(0:MP)=0:=gR;rw[e2]at a1;rcases mul_eq_zero.1 a1.symm with h|h
 ·exact B.elim (λm=>m b) λm=>m h
 ·exact H h
theorem xq(f:Nat->MP)(a:Nat):∀b,dA f (a+b)=dA f a+dA (λj=>f (a+j)) b
 | 0=>by rw[Nat.add_zero,dA];grind
 | b+1=>by rw[<-Nat.add_assoc,dA,xq f a b,dA];grind
theorem qD(f:Nat->MP){k:Nat}:∀{n:Nat},k<n->(∀j,j<n->j≠k->f j=0)->dA f n=f k
 | 0,h,_=>by omega
 | n+1,h,hz=>by
  rw[dA];rcases Nat.eq_or_lt_of_le (show k<=n by omega)with e|hk
  ·subst e;rw[dS (g:=λ_=>0) λj b=>hz j (by omega) (by omega),nK];grind
  ·rw[qD f hk λj b=>hz j (by omega),hz n (by omega) (by omega)];grind
theorem tZ(v i:Nat)(f:Nat->MP):∀n,(dA f n).co v i=dA (λj=>(f j).co v i) n
 | 0=>rfl
 | n+1=>by rw[dA,co_add,tZ v i f n];rfl
theorem qE{v:Nat}{f:Nat->MP}{d:Int}(hd:-1<=d):∀{n:Nat},(∀j,j<n->(f j).deg v<=d)->(dA f n).deg v<=d
 | 0,_=>by rw[dA,deg_zero];exact hd
 | n+1,h=>by have b:=qE hd (n:=n) λj i=>h j oM;have e:=h n oM;rw[dA];have:=tX v (dA f n) (f n);omega
theorem wh(f:Nat->MP)(c:MP)(n:Nat):dA (λi=>f i*c) n=dA f n*c:=by rw[dS (g:=λi=>c*f i) λi _=>gR,sF];grind
theorem di(v:Nat)(a b:MP){x y:Int}(d:a.deg v<=x)(i:b.deg v<=y)(h:-1<=x+y):(a*b).deg v<=x+y:=by
 by_cases ha:a=0
 ·have e:a*b=0:=by rw[ha];grind
  rw[e,deg_zero];exact h
 ·by_cases hb:b=0
  ·have e:a*b=0:=by rw[hb];grind
   rw[e,deg_zero];exact h
  ·rw[deg_mul ha hb];omega
theorem wm(v i:Nat)(p:MP){w:Nat}(b:w<4)(hv:v<4){d:Nat}(h:p.deg w<=d):(p.co v i).deg w<=d:=by have:=zX v i p b hv;omega
theorem Xn{v i:Nat}{p:MP}{w:Nat}(b:w<4)(hv:v<4)(h:p.fr w):(p.co v i).fr w:=by have:=zX v i p b hv;have d:p.deg w<=0:=h;show(p.co v i).deg w<=0;omega
theorem ww{v w k:Nat}(b:w<4)(hv:v<4)(h:v≠w):(xk v k).deg w=0:=by show max (-1) ((e0.put v k).get w)=0;rw[Ex.get_put_ne _ hv b h,CQ];rfl
theorem fU(v k n:Nat):(xk v k).co v n=if n=k then 1 else 0:=by
 have e:xk v k=xk v k*1:=gR;rw[e,co_xk];by_cases h:k<=n
 ·rw[if_pos h];by_cases b:n=k
  ·rw[if_pos b,b,Nat.sub_self,DI (rR v)]
  ·rw[if_neg b,MX (rR v) oM]
 ·rw[if_neg h,if_neg oM]
def Xo (v w:Nat) (R A:Nat) (p q:MP) (j:Nat):MP :=
 if j<A then(xk w (j%R)*xk v (j/R))*p else(xk w ((j-A)%R)*xk v ((j-A)/R))*q
theorem MZ{v w:Nat}(hv:v<4)(I:w<4)(D:v≠w){p q:MP}{m n k d:Nat}(hm:p.deg v<=m)(hn:q.deg v<=n)(a9:k<m)(aa:k<n)(hp:p.deg w<=d)(hq:q.deg w<=d) :
  ∃S T:MP,(S≠0\/T≠0)/\S.deg v<n-k/\(S*p+T*q).deg v<=k/\(S*p+T*q).deg w<=(((m+n-2*k)*d:Nat):Int):=by
 obtain⟨u,hu⟩:∃u,u=m+n - 2*k:=⟨_,rfl⟩;obtain⟨R,hR⟩:∃R,R=(u - 1)*d+1:=⟨_,rfl⟩;have C:0<R:=oM;obtain⟨o,hS⟩:∃o,o=n - k:=⟨_,rfl⟩;obtain⟨G,hT⟩:∃G,G=m - k:=⟨_,rfl⟩;have B:u=o+G:=oM
 have a6:R-1+d=u*d:=by
  have:u*d=(u-1)*d+d:=by rw[<-Nat.succ_mul];congr 1;omega
  omega
 obtain⟨z,Z⟩:∃z,z=u*d+1:=⟨_,rfl⟩
 let mo:Nat->MP:=λj=>xk w (j%R)*xk v (j/R)
 have X:∀j,(mo j).deg w<=(R-1:Nat):=λj=>by show(xk w (j%R)*xk v (j/R)).deg w<=_;rw[deg_mul (xk_ne _ _) (xk_ne _ _),deg_xk,ww I hv D];have:=Nat.mod_lt j C;omega
 have F:∀j,(mo j).deg v=(j/R:Nat):=λj=>by show(xk w (j%R)*xk v (j/R)).deg v=_;rw[deg_mul (xk_ne _ _) (xk_ne _ _),deg_xk,ww hv I (Ne.symm D)];omega
 have a2:∀j,(Xo v w R (o*R) p q j).deg w<=(u*d:Nat):=λj=>by
  unfold Xo;split
  ·exact Int.le_trans (di w _ _ (X j) hp oM) oM
  ·exact Int.le_trans (di w _ _ (X (j-o*R)) hq oM) oM
 have a1:∀j,j<u*R->(Xo v w R (o*R) p q j).deg v<=(m+n-k-1:Nat):=λj x=>by
  unfold Xo;split
  ·rename_i h;have r:j/R<o:=(Nat.div_lt_iff_lt_mul C).2 h;have y:=F j;obtain⟨c,hc⟩:∃c:Nat,c=j/R:=⟨_,rfl⟩;rw[<-hc]at r y;exact Int.le_trans (di v _ _ (Int.le_of_eq y) hm oM) oM
  ·rename_i h;have r:(j - o*R)/R<G:=(Nat.div_lt_iff_lt_mul C).2 (by rw[B,Nat.add_mul]at x;omega);have y:=F (j - o*R);obtain⟨c,hc⟩:∃c:Nat,c=(j - o*R)/R:=⟨_,rfl⟩;rw[<-hc]at r y;exact Int.le_trans (di v _ _ (Int.le_of_eq y) hn oM) oM
 obtain⟨s,H,⟨W,j1,j2⟩,s3⟩:=X9 (P:=λa=>a.fr v/\a.fr w) ⟨rR v,rR w⟩
  (λa b h J=>⟨by have:=tX v a b;have r:a.deg v<=0:=h.1;have y:b.deg v<=0:=J.1;show(a+b).deg v<=0;omega,by have:=tX w a b;have r:a.deg w<=0:=h.2;have y:b.deg w<=0:=J.2;show(a+b).deg w<=0;omega⟩)
  (λa b h J=>⟨rQ h.1 J.1,rQ h.2 J.2⟩)
  (λa h=>⟨Int.le_trans (Ik v a) h.1,Int.le_trans (Ik w a) h.2⟩)
  ((u-1)*z) (u*R) (λi j=>((Xo v w R (o*R) p q j).co v (k+1+i/z)).co w (i%z))
  (λi j _ _=>⟨Xn hv I (co_fr _ _ _),co_fr _ _ _⟩)
  (by
   rw[Z,hR];have r:(u-1)*(u*d+1)=(u-1)*(u*d)+(u-1):=by rw[Nat.mul_add,nU]
   have y:u*((u-1)*d+1)=u*((u-1)*d)+u:=by rw[Nat.mul_add,nU]
   have h3:(u-1)*(u*d)=u*((u-1)*d):=Nat.mul_left_comm _ _ _
   rw[r,y,h3];omega)
 let S:MP:=dA (λj=>s j*mo j) (o*R)
 let T:MP:=dA (λj=>s (o*R+j)*mo j) (G*R)
 have E:S*p+T*q=dA (λj=>s j*Xo v w R (o*R) p q j) (u*R):=by
  rw[B,Nat.add_mul,xq,<-wh,<-wh]
  congr 1
  ·refine dS λj x=>?_;simp only[Xo,if_pos x];show s j*mo j*p=_;grind
  ·refine dS λj x=>?_;simp only[Xo,if_neg (oM:¬o*R+j<o*R),(oM:o*R+j-o*R=j)];show s (o*R+j)*mo j*q=_;grind
 have L:(S*p+T*q).deg w<=(u*d:Nat):=by rw[E];refine qE oM λj x=>?_;have:=di w (s j) _ (H j x).2 (a2 j) oM;omega
 have a7:(S*p+T*q).deg v<=(m+n-k-1:Nat):=by rw[E];refine qE oM λj x=>?_;have:=di v (s j) _ (H j x).1 (a1 j x) oM;omega
 have a3:∀l:Nat,k<l->(S*p+T*q).co v l=0:=λl hl=>by
  rcases Nat.lt_or_ge l (m+n - k)with hlt|hge
  ·obtain⟨g,hg⟩:∃g,g=(S*p+T*q).co v l:=⟨_,rfl⟩;rw[<-hg];have a8:g.deg w<=(u*d:Nat):=by rw[hg];exact wm v l _ I hv L
   have hz:∀b,g.co w b=0:=λb=>by
    rcases Nat.lt_or_ge b z with hb|hb
    ·have Y:(l-(k+1))*z+b<(u-1)*z:=by
      have r:l-(k+1)+1<=u-1:=oM;have:=Nat.mul_le_mul_right z r;rw[Nat.succ_mul]at this;omega
     have:=s3 _ Y
     have e1:((l-(k+1))*z+b)/z=l-(k+1):=by rw[Nat.add_comm,Nat.add_mul_div_right _ _ oM,Nat.div_eq_of_lt hb,Nat.zero_add]
     have e2:((l-(k+1))*z+b)%z=b:=by rw[Nat.add_comm,Nat.add_mul_mod_self_right,Nat.mod_eq_of_lt hb]
     simp only[e1,e2,(oM:k+1+(l-(k+1))=l)]at this;rw[hg,E,tZ,tZ,<-this];refine dS λj x=>?_;rw[co_mul_fr (H j x).1,co_mul_fr (H j x).2]
    ·exact co_above oM
   have:=split w g (N:=z) oM;rw[this,dS (g:=λ_=>0) λi _=>by rw[hz i];grind,nK]
  ·exact co_above oM
 have O:∀(f:Nat->MP)(N:Nat),(∀j,j<N->(f j).fr v/\(f j).fr w)->dA (λj=>f j*mo j) N=0->∀j,j<N->f j=0:=by
  intro f N hf h0 j x;have r:=congrArg (λg=>(g.co v (j/R)).co w (j%R)) h0;simp only[tZ]at r;rw[qD _ x ?_]at r
  ·rw[co_mul_fr (hf j x).1]at r
   have e:(mo j).co v (j/R)=xk w (j%R):=by show(xk w (j%R)*xk v (j/R)).co v (j/R)=_;rw[co_mul_fr (show(xk w (j%R)).fr v from by show(xk w (j%R)).deg v<=0;rw[ww hv I (Ne.symm D)];omega),fU,if_pos rfl];grind
   rw[e,co_mul_fr (hf j x).2,fU,if_pos rfl]at r;have e2:(0:MP).co v (j/R)=0:=rfl;have e3:(0:MP).co w (j%R)=0:=rfl;rw[e2,e3]at r;grind
  ·intro i Y a4;show((f i*mo i).co v (j/R)).co w (j%R)=0;rw[co_mul_fr (hf i Y).1];show(f i*(xk w (i%R)*xk v (i/R)).co v (j/R)).co w (j%R)=0;rw[co_mul_fr (show(xk w (i%R)).fr v from by show(xk w (i%R)).deg v<=0;rw[ww hv I (Ne.symm D)];omega),fU];by_cases r:j/R=i/R
   ·rw[if_pos r];have y:j%R≠i%R:=λy=>a4 (by have:=Nat.div_add_mod j R;have:=Nat.div_add_mod i R;rw[r,y]at *;omega);have e:f i*(xk w (i%R)*1)=f i*xk w (i%R):=gR;rw[e,co_mul_fr (hf i Y).2,fU,if_neg y];grind
   ·rw[if_neg r];have e:f i*(xk w (i%R)*0)=0:=gR;rw[e];rfl
 refine⟨S,T,?_,?_,deg_le_of oM λl hl=>a3 l oM,?_⟩
 ·by_cases K:S=0
  ·refine .inr λa0=>j2 ?_;have M:o*R<=u*R:=Nat.mul_le_mul_right R oM;rcases Nat.lt_or_ge W (o*R)with h|h
   ·exact O s _ (λj x=>H j oM) K W h
   ·have a5:u*R=o*R+G*R:=by rw[B,Nat.add_mul]
    have:=O (λj=>s (o*R+j)) (G*R) (λj x=>H _ oM) a0 (W-o*R) oM;simp only[(oM:o*R+(W-o*R)=W)]at this;exact this
  ·exact .inl K
 ·have:S.deg v<=(o-1:Nat):=qE oM λj x=>by
   have r:j/R<o:=(Nat.div_lt_iff_lt_mul C).2 x;have M:o*R<=u*R:=Nat.mul_le_mul_right R oM;have y:=F j;obtain⟨c,hc⟩:∃c:Nat,c=j/R:=⟨_,rfl⟩;rw[<-hc]at r y;have:=di v (s j) (mo j) (H j oM).1 (Int.le_of_eq y) oM;omega
  omega
 ·rw[<-hu];exact L
end MP
end Q
end
