/- Greatest common divisors of polynomials exist (Gauss). No program in sight. -/
import Derived.Test.YtopclbeomcggiaaGreatW16
set_option linter.unusedVariables false
set_option linter.unusedSimpArgs false
set_option maxHeartbeats 16000000
set_option maxRecDepth 100000
section
namespace Q
namespace MP
structure pJ (g a b:MP):Prop where
 l:g∣a
 r:g∣b
 u:∀ d,d∣a->d∣b->d∣g
def lo (n:Nat) (p:MP):Prop:=∀ w,n<=w->w<4->p.fr w
theorem XB (p:MP):p.lo 4:=fun w h h'=>by omega
theorem lo.mono {m n:Nat} (h:m<=n) {p:MP} (hp:p.lo m):p.lo n:=fun w h1 h2=>hp w (by omega) h2
theorem ry (v:Nat):(0:MP).fr v:=by show (-1:Int)<=0;omega
theorem Lj (n:Nat):(0:MP).lo n:=fun w _ _=>ry w
theorem sJ {a b:MP} {v:Nat} (ha:a.fr v) (hb:b.fr v):(a*b).fr v:=by
 by_cases h1:a=0
 ·have:a*b=0:=by grind
  rw [this];exact ry v
 ·by_cases h2:b=0
  ·have:a*b=0:=by grind
   rw [this];exact ry v
  ·show (a*b).deg v<=0;rw [deg_mul h1 h2];have h3:a.deg v<=0:=ha;have h4:b.deg v<=0:=hb;omega
theorem kI {n:Nat} {a b:MP} (ha:a.lo n) (hb:b.lo n):(a*b).lo n:=fun w h1 h2=>sJ (ha w h1 h2) (hb w h1 h2)
theorem rz {a b:MP} {v:Nat} (hb:b≠0) (h:a∣b) (hf:b.fr v):a.fr v:=Int.le_trans (dvd_deg hb h v) hf
theorem jA {n:Nat} {a b:MP} (hb:b≠0) (h:a∣b) (hf:b.lo n):a.lo n:=fun w h1 h2=>rz hb h (hf w h1 h2)
theorem rA (v:Nat) (a b:MP):(a+b).deg v<=max (a.deg v) (b.deg v):=by
 refine deg_le_of (by have:=deg_ge v a;omega) fun n hn=>?_;rw [co_add,co_above (by omega),co_above (p:=b) (by omega)];grind
theorem EZ (v:Nat) (a:MP):(-a).deg v<=a.deg v:=by
 refine deg_le_of (deg_ge v a) fun n hn=>?_;rw [co_neg,co_above (by omega)];grind
theorem oz (v:Nat) (a b:MP):(a-b).deg v<=max (a.deg v) (b.deg v):=by
 have e:a-b=a+-b:=by grind
 rw [e];have:=rA v a (-b);have:=EZ v b;omega
theorem Ps {n:Nat} {a b:MP} (ha:a.lo n) (hb:b.lo n):(a-b).lo n:=fun w h1 h2=>by
 have:=oz w a b;have h3:a.deg w<=0:=ha w h1 h2;have h4:b.deg w<=0:=hb w h1 h2;show (a-b).deg w<=0;omega
theorem Sk (v:Nat):(1:MP).deg v=0:=by
 show max (-1) (Ex.get e0 v)=0;rw [AL];rfl
theorem qd (v:Nat):(1:MP).fr v:=by show (1:MP).deg v<=0;rw [Sk];omega
theorem AO (n:Nat):(1:MP).lo n:=fun w _ _=>qd w
theorem AP {d:MP} {v:Nat} (hd:d.fr v):d.co v 0=d:=by
 have:=split v d (N:=1) (by have h:d.deg v<=0:=hd;omega);rw [bZ,bZ] at this;have e:xk v 0=1:=ext' fun x=>by rw [ev_xk,ev_one,Rat.pow_zero]
 rw [e] at this;grind
theorem JF {d:MP} {v:Nat} (hd:d.fr v) {n:Nat} (hn:0<n):d.co v n=0:=co_above (by have h:d.deg v<=0:=hd;omega)
theorem xO (v n:Nat) (p:MP) {w:Nat} (hw:w<4) (hv:v<4):(p.co v n).deg w<=max 0 (p.deg w):=by
 rcases (gW (fun t=>t.1.get w) (p.co v n).l (-1)).2.2 with e|⟨t,ht,e⟩
 ·show aG _ w<=_;unfold aG;rw [e];omega
 ·show aG _ w<=_;unfold aG;rw [<- e];have ht:t∈(p.l.filter fun u=>u.1.get v=(n:Int)).map fun u=>(u.1.put v 0,u.2):=ht;obtain⟨u,hu,rfl⟩:=List.mem_map.1 ht;by_cases hc:v=w
  ·subst hc;show (u.1.put v 0).get v<=_;rw [Ex.get_put];omega
  ·show (u.1.put v 0).get w<=_;rw [Ex.get_put_ne _ hv hw hc];have:=dU (List.mem_filter.1 hu).1 w;have h':p.deg w=aG p.l w:=rfl;omega
theorem GN {n i:Nat} {p:MP} (hn:n<4) (hp:p.lo (n+1)):(p.co n i).lo n:=fun w h1 h2=>by
 rcases Nat.eq_or_lt_of_le h1 with e|h
 ·subst e;exact co_fr _ _ _
 ·have:=xO n i p h2 hn;have h3:p.deg w<=0:=hp w h h2;show (p.co n i).deg w<=0;omega
theorem vT {n:Nat} {p:MP} (hp:p.lo (n+1)) (hf:p.fr n):p.lo n:=fun w h1 h2=>by
 rcases Nat.eq_or_lt_of_le h1 with e|h
 ·subst e;exact hf
 ·exact hp w h h2
theorem TZ {n k:Nat} (hn:n<4):(xk n k).lo (n+1):=fun w h1 h2=>by
 show max (-1) ((e0.put n k).get w)<=0;rw [Ex.get_put_ne _ hn h2 (by omega),AL];omega
theorem yP {n:Nat} {p:MP} (hn:n<4) (hp:p.lo (n+1)):(p.lc n).lo n:=GN hn hp
theorem mR {p:MP} (h:p.lo 0):∃ r,p=c r:=by
 refine⟨cf p.l e0,eq_of (p.v.inj (aV.const _) fun e=>?_)⟩;by_cases he:e=e0
 ·subst he;show _=cf (bX _) e0;unfold bX;split
  ·rename_i h0;rw [h0];rfl
  ·rw [bG,if_pos rfl,jd];grind
 ·rw [mZ (l:=p.l),mZ]
  ·intro t ht;show t.1≠e;have ht:t∈bX _:=ht;unfold bX at ht;split at ht
   ·cases ht
   ·rw [List.mem_singleton.1 ht];exact fun h=>he h.symm
  ·intro t ht h1;apply he;rw [<- h1];have h0:=fr_get (h 0 (by omega) (by omega)) ht;have h1:=fr_get (h 1 (by omega) (by omega)) ht;have h2:=fr_get (h 2 (by omega) (by omega)) ht;have h3:=fr_get (h 3 (by omega) (by omega)) ht;exact Ex.ext' h0 h1 h2 h3
theorem lv (r s:Rat):c r*c s=c (r*s):=ext' fun x=>by rw [ev_mul,ev_c,ev_c,ev_c]
theorem Pv:c 0=0:=rfl
theorem AQ:c 1=1:=rfl
theorem AR {r:Rat} (h:r≠0):(c r).unit:=⟨c r⁻¹,by rw [lv,Rat.mul_inv_cancel _ h];rfl⟩
theorem Pw {p:MP} (h:p.lo 0) (hp:p≠0):p.unit:=by
 obtain⟨r,rfl⟩:=mR h;exact AR fun e=>hp (by rw [e];rfl)
theorem E8 {p:MP} (h:p.unit):p≠0:=dvd_ne one_ne h
theorem Px {p:MP} (h:p.unit):p.lo 0:=jA one_ne h (AO 0)
def lm (n:Nat):Prop:=∀ a b:MP,a.lo n->b.lo n->∃ g,g.lo n/\pJ g a b
theorem Sl:lm 0:=fun a b ha hb=>by
 by_cases h:a=0
 ·exact⟨b,hb,by rw [h];exact dvd_zero b,dvd_refl b,fun d _ h=>h⟩
 ·exact⟨1,AO 0,unit_dvd unit_one a,unit_dvd unit_one b,fun d h1 _=>unit_of_dvd h1 (Pw ha h)⟩
structure xP (v:Nat) (c p:MP):Prop where
 f:c.fr v
 d:c∣p
 u:∀ d,d.fr v->d∣p->d∣c
def prim (v:Nat) (p:MP):Prop:=∀ d,d.fr v->d∣p->d.unit
theorem dY {v:Nat} {p:MP} (h:p.prim v):p≠0:=fun e=>by
 have:=h 0 (ry v) (by rw [e];exact dvd_refl 0);exact E8 this rfl
theorem qy {v:Nat} {p q:MP} (h:p.prim v) (hd:q∣p):q.prim v:=fun d h1 h2=>h d h1 (dvd_trans h2 hd)
variable {n:Nat}
theorem V6 (G:lm n) (f:Nat->MP):∀ N:Nat,(∀ i,i<N->(f i).lo n)->∃ g,g.lo n/\(∀ i,i<N->g∣f i)/\∀ d,(∀ i,i<N->d∣f i)->d∣g
 | 0,_=>⟨0,Lj n,fun i h=>by omega,fun d _=>dvd_zero d⟩
 | N+1,h=>by
  obtain⟨g,h1,h2,h3⟩:=V6 G f N fun i hi=>h i (by omega);obtain⟨k,k1,k2⟩:=G g (f N) h1 (h N (by omega));refine⟨k,k1,fun i hi=>?_,fun d hd=>k2.u d (h3 d fun i hi=>hd i (by omega)) (hd N (by omega))⟩;rcases Nat.lt_or_ge i N with h|h
  ·exact dvd_trans k2.l (h2 i h)
  ·obtain rfl:i=N:=by omega
   exact k2.r
theorem Ll (G:lm n) (hn:n<4) {p:MP} (hp:p.lo (n+1)):∃ c,c.lo n/\xP n c p:=by
 obtain⟨g,h1,h2,h3⟩:=V6 G (fun i=>p.co n i) ((p.deg n).toNat+1) fun i _=>GN hn hp;have hf:g.fr n:=h1 n (Nat.le_refl _) hn;refine⟨g,h1,hf,(dvd_iff_co hf p).2 fun i=>?_,fun d hd hdp=>h3 d fun i _=>(dvd_iff_co hd p).1 hdp i⟩;rcases Nat.lt_or_ge i ((p.deg n).toNat+1) with h|h
 ·exact h2 i h
 ·rw [co_above (by have:=deg_ge n p;omega)];exact dvd_zero g
theorem mr {v:Nat} {c p:MP} (h:xP v c p) (hp:p≠0):∃ q,p=c*q/\q.prim v/\c≠0:=by
 obtain⟨q,e⟩:=h.d;have hc:c≠0:=fun e'=>hp (by rw [e,e'];grind);refine⟨q,e,fun d hd ⟨x,e2⟩=>?_,hc⟩;have h2:=h.u (c*d) (sJ h.f hd) ⟨x,by rw [e,e2];grind⟩;exact unit_cancel hc h2
theorem lu (G:lm n) (hn:n<4) {p:MP} (hp:p.lo (n+1)) (h0:p≠0):∃ c q,p=c*q/\c.lo n/\c≠0/\q.prim n/\q.lo (n+1)/\xP n c p:=by
 obtain⟨c,h1,h2⟩:=Ll G hn hp;obtain⟨q,e,h3,h4⟩:=mr h2 h0;exact⟨c,q,e,h1,h4,h3,jA h0 (by rw [e];exact dvd_mul_left _ _) hp,h2⟩
theorem UJ (G:lm n) {c s t:MP} (hc:c.lo n) (hs:s.lo n) (ht:t.lo n) (h0:t≠0) (h:∀ d,d∣c->d∣s->d.unit) (hd:c∣s*t):c∣t:=by
 obtain⟨k,_,k2⟩:=G (t*c) (t*s) (kI ht hc) (kI ht hs);obtain⟨u,rfl⟩:=k2.u t (dvd_mul_right _ _) (dvd_mul_right _ _);have hu:=h u (dvd_cancel h0 k2.l) (dvd_cancel h0 k2.r);have h3:=k2.u c (dvd_mul_left _ _) (by rw [show t*s=s*t by grind];exact hd);obtain⟨w,ew⟩:=hu;refine dvd_trans h3 ⟨w,?_⟩;grind
theorem Lm (G:lm n) (hn:n<4) {h e d:MP} (hh:h.prim n) (hlo:(e*h).lo (n+1)) (he:e.fr n) (hd:d.fr n) (hdv:d∣e*h):d∣e:=by
 by_cases h0:e=0
 ·rw [h0];exact dvd_zero d
 ·obtain⟨c,_,h2⟩:=Ll G hn hlo;obtain⟨u,rfl⟩:=h2.u e he (dvd_mul_right _ _);have hne:e*h≠0:=mul_ne h0 (dY hh);have hun:u∣h:=dvd_cancel h0 h2.d;have hu:u.unit:=hh u (rz (fun e'=>dvd_ne hne h2.d e') (dvd_mul_left u e) h2.f) hun;obtain⟨w,ew⟩:=hu;exact dvd_trans (h2.u d hd hdv) ⟨w,by grind⟩
theorem uO (v:Nat) {p q:MP} (hp:p≠0) (hq:q≠0):(p*q).co v ((p.deg v).toNat+(q.deg v).toNat)=p.lc v*q.lc v:=Nv fun f=>by
 have h1:=deg_pos hp v;have h2:=deg_pos hq v;have e1:((p.deg v).toNat:Int)=aG p.l v:=by show ((aG p.l v).toNat:Int)=_;exact Int.toNat_of_nonneg h1
 have e2:((q.deg v).toNat:Int)=aG q.l v:=by show ((aG q.l v).toNat:Int)=_;exact Int.toNat_of_nonneg h2
 have:=yO (p:=p.l) (q:=q.l) v f;rw [lf_mul,<- ow];show Lf f (aD (canon (prods p.l q.l)) v _)=Lf f (prods (aD p.l v _) (aD q.l v _));rw [e1,e2,<- this];rw [Int.natCast_add,e1,e2,dX,dX];exact iN (p.v.nat.prods q.v.nat) _
theorem Py {p:MP} (v:Nat):(p-p.lc v*xk v (p.deg v).toNat).deg v<=p.deg v-1\/p=0:=by
 by_cases h0:p=0
 ·exact .inr h0
 ·refine .inl (deg_le_of (by have:=deg_pos h0 v;omega) fun k hk=>?_);have h1:=deg_pos h0 v;rw [co_sub,co_mul_fr (lc_fr v p)];have e:xk v (p.deg v).toNat=xk v (p.deg v).toNat * 1:=by grind
  rw [e,co_xk,if_pos (by omega)];rcases Nat.eq_or_lt_of_le (show (p.deg v).toNat<=k by omega) with e|hlt
  ·rw [<- e,Nat.sub_self,AP (qd v)];show p.lc v-_=0;grind
  ·rw [JF (qd v) (by omega),co_above (by omega)];grind
theorem Pz (G:lm n) (hn:n<4) (N:Nat)
  (ih:∀ f g:MP,f.lo (n+1)->g.lo (n+1)->f.prim n->g.prim n->(f.deg n).toNat+(g.deg n).toNat<N->(f*g).prim n)
  {f g:MP} (lf:f.lo (n+1)) (lg:g.lo (n+1)) (pf:f.prim n) (pg:g.prim n) (hN:(f.deg n).toNat+(g.deg n).toNat<=N) {c:MP} (hc:c.fr n) (hd:c∣f*g):∀ d,d∣c->d∣f.lc n->d.unit:=by
 intro d h1 h2;have f0:=dY pf;have g0:=dY pg;have hd':d.fr n:=rz (dvd_ne (mul_ne f0 g0) hd) h1 hc;have hdg:=Py (p:=f) n;obtain⟨f1,e1⟩:∃ f1,f1=f - f.lc n*xk n (f.deg n).toNat:=⟨_,rfl⟩;rw [<- e1] at hdg;have hdeg:f1.deg n<=f.deg n - 1:=hdg.resolve_right f0
 have h3:d∣f1*g:=by
  have e:f1*g=f*g-f.lc n*(xk n (f.deg n).toNat * g):=by rw [e1];grind
  rw [e];exact dvd_sub (dvd_trans h1 hd) (dvd_mul_of h2 _)
 have hback:f=f1+f.lc n*xk n (f.deg n).toNat:=by rw [e1];grind
 by_cases hz:f1=0
 ·refine pf d hd' ?_;rw [hback,hz];exact dvd_add (dvd_zero d) (dvd_mul_of h2 _)
 ·have l1:f1.lo (n+1):=by
   rw [e1];exact Ps lf (kI (lo.mono (by omega) (yP hn lf)) (TZ hn))
  obtain⟨e,q,eq,he,he0,hq,lq,_⟩:=lu G hn l1 hz;have hqd:q.deg n<=f1.deg n:=dvd_deg hz (by rw [eq];exact dvd_mul_left _ _) n;have hp:=ih q g lq lg hq pg (by have:=deg_pos f0 n;have:=deg_pos (dY hq) n;omega);have hef:e.fr n:=he n (Nat.le_refl _) hn
  have h5:d∣e:=Lm G hn (h:=q*g) (e:=e) hp (kI (lo.mono (by omega) he) (kI lq lg)) hef hd' (by
   have:e*(q*g)=f1*g:=by rw [eq];grind
   rw [this];exact h3)
  refine pf d hd' ?_;rw [hback];refine dvd_add ?_ (dvd_mul_of h2 _);rw [eq];exact dvd_mul_of h5 _
theorem Ua (G:lm n) (hn:n<4):∀ (N:Nat) (f g:MP),f.lo (n+1)->g.lo (n+1)->f.prim n->g.prim n->(f.deg n).toNat+(g.deg n).toNat<N->(f*g).prim n
 | 0,_,_,_,_,_,_,h=>by omega
 | N+1,f,g,lf,lg,pf,pg,hN=>fun c hc hd=>by
  have ih:=Ua G hn N;have a1:=Pz G hn N ih lf lg pf pg (by omega) hc hd
  have a2:=Pz G hn N ih lg lf pg pf (by omega) hc (by
   have e:g*f=f*g:=by grind
   rw [e];exact hd)
  have f0:=dY pf;have g0:=dY pg;have hfg:=mul_ne f0 g0;have hlc:c∣f.lc n*g.lc n:=by rw [<- uO n f0 g0];exact (dvd_iff_co hc _).1 hd _
  have lc':c.lo n:=vT (jA hfg hd (kI lf lg)) hc;have:=UJ G lc' (yP hn lf) (yP hn lg) (lc_ne g0 n) a1 hlc;exact a2 c (dvd_refl c) this
theorem PD (G:lm n) (hn:n<4) {f g:MP} (lf:f.lo (n+1)) (lg:g.lo (n+1)) (pf:f.prim n) (pg:g.prim n):(f*g).prim n:=Ua G hn _ f g lf lg pf pg (Nat.lt_succ_self _)
theorem zo (G:lm n) (hn:n<4) {f g c:MP} (lf:f.lo (n+1)) (lg:g.lo (n+1)) (pf:f.prim n) (hc:c.fr n) (hd:c∣f*g):c∣g:=by
 by_cases h0:g=0
 ·rw [h0];exact dvd_zero c
 ·obtain⟨e,q,rfl,he,he0,hq,lq,_⟩:=lu G hn lg h0;have hef:e.fr n:=he n (Nat.le_refl _) hn
  have h5:=Lm G hn (h:=f*q) (e:=e) (PD G hn lf lq pf hq) (kI (lo.mono (by omega) he) (kI lf lq)) hef hc (by
   have:e*(f*q)=f*(e*q):=by grind
   rw [this];exact hd)
  exact dvd_mul_of h5 _
theorem gG (G:lm n) (hn:n<4) {f g c:MP} (lg:g.lo (n+1)) (pf:f.prim n) (hc:c.lo n) (h0:c≠0) (hd:f∣c*g):f∣g:=by
 by_cases hg:g=0
 ·rw [hg];exact dvd_zero f
 ·obtain⟨h,e⟩:=hd;have hcg:=mul_ne h0 hg;have lcg:(c*g).lo (n+1):=kI (lo.mono (by omega) hc) lg;have lh:h.lo (n+1):=jA hcg (by rw [e];exact dvd_mul_left _ _) lcg;have lf:f.lo (n+1):=jA hcg (by rw [e];exact dvd_mul_right _ _) lcg;obtain⟨h',rfl⟩:=zo G hn lf lh pf (hc n (Nat.le_refl _) hn) (by rw [<- e];exact dvd_mul_right _ _);exact⟨h',cancel h0 (by rw [e];grind)⟩
def red (v:Nat) (p q:MP):MP:=q.lc v*p-p.lc v*(xk v ((p.deg v).toNat-(q.deg v).toNat)*q)
theorem Sm {v:Nat} {p q:MP} (hp:p≠0) (hq:q≠0) (h:q.deg v<=p.deg v) (h1:0<p.deg v):(red v p q).deg v<=p.deg v-1:=by
 have a1:=deg_pos hq v;refine deg_le_of (by omega) fun k hk=>?_;rw [red,co_sub,co_mul_fr (lc_fr v q),co_mul_fr (lc_fr v p),co_xk,if_pos (by omega)];rcases Nat.eq_or_lt_of_le (show (p.deg v).toNat<=k by omega) with e|hlt
 ·have e2:k-((p.deg v).toNat-(q.deg v).toNat)=(q.deg v).toNat:=by omega
  rw [e2,<- e];show q.lc v*p.lc v-p.lc v*q.lc v=0;grind
 ·rw [co_above (p:=p) (by omega),co_above (p:=q) (by omega)];grind
theorem UK (hn:n<4) {p q:MP} (hp:p.lo (n+1)) (hq:q.lo (n+1)):(red n p q).lo (n+1) :=
 Ps (kI (lo.mono (by omega) (yP hn hq)) hp) (kI (lo.mono (by omega) (yP hn hp)) (kI (TZ hn) hq))
theorem GQ (G:lm n) (hn:n<4):∀ (N:Nat) (p q:MP),p.lo (n+1)->q.lo (n+1)->p.prim n->q.prim n->(p.deg n).toNat+(q.deg n).toNat<N->∃ h,h.lo (n+1)/\pJ h p q
 | 0,_,_,_,_,_,_,h=>by omega
 | N+1,p,q,lp,lq,pp,pq,hN=>by
  have p0:=dY pp;have q0:=dY pq
  have key:∀ p q:MP,p.lo (n+1)->q.lo (n+1)->p.prim n->q.prim n->(p.deg n).toNat+(q.deg n).toNat<N+1->q.deg n<=p.deg n->∃ h,h.lo (n+1)/\pJ h p q:=by
   intro p q lp lq pp pq hN nz;have p0:=dY pp;have q0:=dY pq;rcases Int.lt_or_le 0 (q.deg n) with hq|hq
   ·have hdeg:=Sm p0 q0 nz (by omega);have er:q.lc n*p=red n p q+p.lc n*(xk n ((p.deg n).toNat-(q.deg n).toNat)*q):=by unfold red;grind
    by_cases hz:red n p q=0
    ·refine⟨q,lq,gG G hn lp pq (yP hn lq) (lc_ne q0 n) ?_,dvd_refl q,fun d _ h=>h⟩;rw [er,hz];exact dvd_add (dvd_zero q) (dvd_mul_of' (dvd_mul_left _ _) _)
    ·obtain⟨e,r,eq,he,he0,hr,lr,_⟩:=lu G hn (UK hn lp lq) hz;have hrd:r.deg n<=(red n p q).deg n:=dvd_deg hz (by rw [eq];exact dvd_mul_left _ _) n;obtain⟨h,lh,hh⟩:=GQ G hn N q r lq lr pq hr (by have:=deg_pos p0 n;have:=deg_pos (dY hr) n;omega);refine⟨h,lh,gG G hn lp (qy pq hh.l) (yP hn lq) (lc_ne q0 n) ?_,hh.l,fun d h1 h2=>hh.u d h2 ?_⟩
     ·rw [er];refine dvd_add ?_ (dvd_mul_of' (dvd_trans hh.l (dvd_mul_left _ _)) _);rw [eq];exact dvd_trans hh.r (dvd_mul_left _ _)
     ·refine gG G hn lr (qy pq h2) he he0 ?_;rw [<- eq];unfold red;exact dvd_sub (dvd_mul_of' h1 _) (dvd_mul_of' (dvd_mul_of' h2 _) _)
   ·have hu:q.unit:=pq q hq (dvd_refl q);exact⟨1,AO _,unit_dvd unit_one p,unit_dvd unit_one q,fun d _ h2=>unit_of_dvd h2 hu⟩
  rcases Int.le_total (q.deg n) (p.deg n) with h|h
  ·exact key p q lp lq pp pq hN h
  ·obtain⟨g,lg,hg⟩:=key q p lq lp pq pp (by omega) h;exact⟨g,lg,hg.r,hg.l,fun d h1 h2=>hg.u d h2 h1⟩
theorem GR (hn:n<4) (G:lm n):lm (n+1):=fun a b la lb=>by
 by_cases ha:a=0
 ·exact⟨b,lb,by rw [ha];exact dvd_zero b,dvd_refl b,fun d _ h=>h⟩
 by_cases hb:b=0
 ·exact⟨a,la,dvd_refl a,by rw [hb];exact dvd_zero a,fun d h _=>h⟩
 obtain⟨c,p,rfl,hc,c0,pp,lp,ic⟩:=lu G hn la ha;obtain⟨d,q,rfl,hd,d0,pq,lq,id'⟩:=lu G hn lb hb;obtain⟨g,lg,hg⟩:=G c d hc hd;obtain⟨h,lh,hh⟩:=GQ G hn _ p q lp lq pp pq (Nat.lt_succ_self _);refine⟨g*h,kI (lo.mono (by omega) lg) lh,mul_dvd hg.l hh.l,mul_dvd hg.r hh.r,fun x h1 h2=>?_⟩;have x0:=dvd_ne ha h1;have lx:=jA ha h1 la;obtain⟨e,y,rfl,he,e0,py,ly,_⟩:=lu G hn lx x0;have hef:e.fr n:=he n (Nat.le_refl _) hn;refine mul_dvd (hg.u e ?_ ?_) (hh.u y ?_ ?_)
 ·exact ic.u e hef (dvd_trans (dvd_mul_right _ _) h1)
 ·exact id'.u e hef (dvd_trans (dvd_mul_right _ _) h2)
 ·exact gG G hn lp py hc c0 (dvd_trans (dvd_mul_left _ _) h1)
 ·exact gG G hn lq py hd d0 (dvd_trans (dvd_mul_left _ _) h2)
theorem AU:∀ n,n<=4->lm n
 | 0,_=>Sl
 | n+1,h=>GR (by omega) (AU n (by omega))
end MP
end Q
end
section
namespace Q
theorem dF {f g:Nat->MP}:∀ {n:Nat},(∀ i,i<n->f i=g i)->bZ f n=bZ g n
 | 0,_=>rfl
 | n+1,h=>by rw [bZ,bZ,dF fun i hi=>h i (by omega),h n (by omega)]
theorem mD:∀ n:Nat,bZ (fun _=>0) n=0
 | 0=>rfl
 | n+1=>by rw [bZ,mD n];grind
theorem AV (f g:Nat->MP):∀ n:Nat,bZ (fun i=>f i+g i) n=bZ f n+bZ g n
 | 0=>by simp only [bZ];grind
 | n+1=>by simp only [bZ];rw [AV f g n];grind
theorem qA (c:MP) (f:Nat->MP):∀ n:Nat,bZ (fun i=>c*f i) n=c*bZ f n
 | 0=>by simp only [bZ];grind
 | n+1=>by simp only [bZ];rw [qA c f n];grind
theorem GU (f:Nat->MP) (n:Nat):bZ (fun i=>- f i) n=- bZ f n:=by
 have:=qA (-1) f n;have e:(fun i=>(-1:MP)*f i)=fun i=>- f i:=funext fun i=>by grind
 rw [e] at this;rw [this];grind
def qB (k j:Nat):Nat:=if j<k then j else j+1
def Xo (k j:Nat):Nat:=if j<k then j else j-1
theorem Lp (k j:Nat):Xo k (qB k j)=j:=by
 unfold Xo qB;by_cases h:j<k
 ·rw [if_pos h,if_pos h]
 ·rw [if_neg h,if_neg (by omega)];omega
theorem PE (k j:Nat):qB k j≠k:=by unfold qB;split <;> omega
theorem AX {k j n:Nat} (h:j<n):qB k j<n+1:=by unfold qB;split <;> omega
theorem GV (f:Nat->MP):∀ {n k:Nat},k<n+1->bZ f (n+1)=f k+bZ (fun j=>f (qB k j)) n
 | 0,k,h=>by
  obtain rfl:k=0:=by omega
  simp only [bZ];grind
 | n+1,k,h=>by
  rcases Nat.eq_or_lt_of_le (show k<=n+1 by omega) with e|hk
  ·subst e;rw [bZ,dF (f:=fun j=>f (qB (n+1) j)) (g:=f) fun i hi=>by simp only [qB,if_pos hi]];grind
  ·rw [bZ,GV f (k:=k) (by omega),bZ,show qB k n=n+1 from by unfold qB;rw [if_neg (by omega)]];grind
theorem UL {P:MP->Prop} (h1:P 1) (ha:∀ a b,P a->P b->P (a+b)) (hm:∀ a b,P a->P b->P (a*b)) (hn:∀ a,P a->P (-a)) :
  ∀ (e n:Nat) (M:Nat->Nat->MP),(∀ i j,i<e->j<n->P (M i j))->e<n->∃ s:Nat->MP,(∀ j,j<n->P (s j))/\(∃ j,j<n/\s j≠0)/\∀ i,i<e->bZ (fun j=>s j*M i j) n=0:=by
 have h0:P 0:=by
  have:=ha 1 (-1) h1 (hn 1 h1);have e:(1:MP)+-1=0:=by grind
  rwa [e] at this
 have hs:∀ (f:Nat->MP) n,(∀ j,j<n->P (f j))->P (bZ f n):=by
  intro f n
  induction n with
  | zero=>intro _;exact h0
  | succ n ih=>intro h;exact ha _ _ (ih fun j hj=>h j (by omega)) (h n (by omega))
 intro e
 induction e with
 | zero=>intro n M _ hlt;exact⟨fun _=>1,fun _ _=>h1,⟨0,hlt,MP.one_ne⟩,fun i hi=>by omega⟩
 | succ e ih =>
  intro n M hM hlt;by_cases hz:∀ j,j<n->M e j=0
  ·obtain⟨s,s1,s2,s3⟩:=ih n M (fun i j hi hj=>hM i j (by omega) hj) (by omega);refine⟨s,s1,s2,fun i hi=>?_⟩;rcases Nat.eq_or_lt_of_le (show i<=e by omega) with e'|hi'
   ·subst e';rw [dF (g:=fun _=>0) fun j hj=>by rw [hz j hj];grind];exact mD n
   ·exact s3 i hi'
  ·have ⟨k,hk⟩:=Classical.not_forall.1 hz;have ⟨hkn,hk0⟩:=Classical.not_imp.1 hk;obtain⟨m,rfl⟩:∃ m,n=m+1:=⟨n - 1,by omega⟩
   obtain⟨s,s1,⟨j1,j2,j3⟩,s3⟩:=ih m (fun i j=>M e k*M i (qB k j) - M i k*M e (qB k j)) (fun i j hi hj=>by
    have a1:=hm _ _ (hM e k (by omega) hkn) (hM i (qB k j) (by omega) (AX hj));have a2:=hn _ (hm _ _ (hM i k (by omega) hkn) (hM e (qB k j) (by omega) (AX hj)));have:=ha _ _ a1 a2;have e':M e k*M i (qB k j)-M i k*M e (qB k j)=M e k*M i (qB k j)+-(M i k*M e (qB k j)):=by grind
    show P (M e k*M i (qB k j)-M i k*M e (qB k j))
    rw [e'];exact this) (by omega)
   refine⟨fun j=>if j=k then-bZ (fun j=>s j*M e (qB k j)) m else M e k*s (Xo k j),fun j hj=>?_,⟨qB k j1,AX j2,?_⟩,fun i hi=>?_⟩
   ·show P (if j=k then _ else _);split
    ·exact hn _ (hs _ _ fun j hj=>hm _ _ (s1 j hj) (hM e _ (by omega) (AX hj)))
    ·rename_i hne;refine hm _ _ (hM e k (by omega) hkn) (s1 _ ?_);unfold Xo;split <;> omega
   ·show (if qB k j1=k then _ else _)≠_;rw [if_neg (PE k j1),Lp];exact MP.mul_ne hk0 j3
   ·rw [GV _ hkn];simp only [if_pos,if_neg (PE k _),Lp]
    have hsum:bZ (fun j=>s j*(M e k*M i (qB k j)-M i k*M e (qB k j))) m=M e k*bZ (fun j=>s j*M i (qB k j)) m-M i k*bZ (fun j=>s j*M e (qB k j)) m:=by
     rw [<- qA,<- qA];have:∀ a b:MP,a-b=a+-b:=fun a b=>by grind
     rw [this,<- GU,<- AV];exact dF fun j _=>by grind
    have e2:bZ (fun j=>M e k*s j*M i (qB k j)) m=M e k*bZ (fun j=>s j*M i (qB k j)) m:=by
     rw [<- qA];exact dF fun j _=>by grind
    rw [e2];rcases Nat.eq_or_lt_of_le (show i<=e by omega) with e'|hi'
    ·subst e';grind
    ·have:=s3 i hi';rw [hsum] at this;grind
theorem UM {A B:Nat} (f:Nat->Nat) (h:∀ a,a<A->f a<B) (hlt:B<A):∃ a b,a<A/\b<A/\a≠b/\f a=f b:=by
 rcases Classical.em (∃ a b,a<A/\b<A/\a≠b/\f a=f b) with hh|hh
 ·exact hh
 ·exfalso
  have hnd:((List.range A).map f).Nodup:=by
   rw [List.Nodup,List.pairwise_map];refine List.Pairwise.imp_of_mem ?_ (List.pairwise_lt_range (n:=A));intro a b ha hb hab e;exact hh ⟨a,b,List.mem_range.1 ha,List.mem_range.1 hb,by omega,e⟩
  have:=hnd.length_le_of_subset (l₂:=List.range B) (fun x hx=>by
   obtain⟨a,ha,rfl⟩:=List.mem_map.1 hx
   exact List.mem_range.2 (h a (List.mem_range.1 ha)))
  simp at this;omega
def AY (X:Nat):Nat->Nat->Nat
 | a,0=>a % X
 | a,j+1=>AY X (a / X) j
theorem AZ {X:Nat} (hX:0<X):∀ (a j:Nat),AY X a j<X
 | a,0=>Nat.mod_lt _ hX
 | a,j+1=>AZ hX (a / X) j
theorem E9 {X:Nat} (hX:0<X):∀ (n a b:Nat),a<X ^ n->b<X ^ n->(∀ j,j<n->AY X a j=AY X b j)->a=b
 | 0,a,b,ha,hb,_=>by simp at ha hb;omega
 | n+1,a,b,ha,hb,h=>by
  have h0:=h 0 (by omega);have h1:=E9 hX n (a / X) (b / X) (Nat.div_lt_of_lt_mul (by rwa [Nat.mul_comm,<- Nat.pow_succ])) (Nat.div_lt_of_lt_mul (by rwa [Nat.mul_comm,<- Nat.pow_succ])) fun j hj=>h (j+1) (by omega);simp only [AY] at h0;have:=Nat.div_add_mod a X;have:=Nat.div_add_mod b X;rw [h1,h0] at *;omega
def nA (W:Nat) (y:Nat->Nat):Nat->Nat
 | 0=>0
 | n+1=>y 0+W*nA W (fun i=>y (i+1)) n
theorem vU {W:Nat}:∀ (n:Nat) (y:Nat->Nat),(∀ i,i<n->y i<W)->nA W y n<W ^ n
 | 0,_,_=>by simp [nA]
 | n+1,y,h=>by
  have h0:=h 0 (by omega);have:=vU n (fun i=>y (i+1)) fun i hi=>h (i+1) (by omega);rw [nA,Nat.pow_succ,Nat.mul_comm (W ^ n)];have:W*(nA W (fun i=>y (i+1)) n+1)<=W*W ^ n:=Nat.mul_le_mul_left W this;rw [Nat.mul_succ] at this;omega
theorem DK {W:Nat}:∀ (n:Nat) (y z:Nat->Nat),(∀ i,i<n->y i<W)->(∀ i,i<n->z i<W)->nA W y n=nA W z n->∀ i,i<n->y i=z i
 | 0,_,_,_,_,_=>fun i hi=>by omega
 | n+1,y,z,hy,hz,h=>fun i hi=>by
  have h0:=hy 0 (by omega);have h1:=hz 0 (by omega);rw [nA,nA] at h
  have e1:y 0=z 0:=by
   have:=congrArg (· % W) h;simp only [Nat.add_mul_mod_self_left,Nat.mod_eq_of_lt h0,Nat.mod_eq_of_lt h1] at this;exact this
  have e2:=Nat.eq_of_mul_eq_mul_left (show 0<W by omega) (show W*nA W (fun i=>y (i+1)) n=W*nA W (fun i=>z (i+1)) n by omega)
  cases i with
  | zero=>exact e1
  | succ i=>exact DK n _ _ (fun i hi=>hy (i+1) (by omega)) (fun i hi=>hz (i+1) (by omega)) e2 i (by omega)
def uP (f:Nat->Int):Nat->Int
 | 0=>0
 | n+1=>uP f n+f n
theorem GX (f g:Nat->Int):∀ n,uP (fun i=>f i-g i) n=uP f n-uP g n
 | 0=>rfl
 | n+1=>by simp only [uP];rw [GX f g n];omega
theorem GY {f:Nat->Int} {K:Nat}:∀ {n:Nat},(∀ i,i<n->(f i).natAbs<=K)->(uP f n).natAbs<=n*K
 | 0,_=>by simp [uP]
 | n+1,h=>by
  have h1:=GY (n:=n) fun i hi=>h i (by omega);have h2:=h n (by omega);rw [uP,Nat.succ_mul];omega
theorem UN {e n H X:Nat} (M:Nat->Nat->Int) (hM:∀ i j,i<e->j<n->(M i j).natAbs<=H) (hlt:(2*(n*(X*H))+1) ^ e<(X+1) ^ n) :
  ∃ s:Nat->Int,(∀ j,(s j).natAbs<=X)/\(∃ j,j<n/\s j≠0)/\∀ i,i<e->uP (fun j=>s j*M i j) n=0:=by
 have hb:∀ (a i:Nat),i<e->(uP (fun j=>(AY (X+1) a j:Int)*M i j) n).natAbs<=n*(X*H):=fun a i hi=>GY fun j hj=>by
  rw [Int.natAbs_mul,Int.natAbs_natCast];exact Nat.mul_le_mul (by have:=AZ (X:=X+1) (by omega) a j;omega) (hM i j hi hj)
 obtain⟨Z,hZ⟩:∃ Z,Z=n*(X*H):=⟨_,rfl⟩;rw [<- hZ] at hlt
 let y:Nat->Nat->Nat:=fun a i=>(uP (fun j=>(AY (X+1) a j:Int)*M i j) n+Z).toNat
 have hy:∀ a i,i<e->y a i<2*Z+1:=fun a i hi=>by
  have:=hb a i hi;rw [<- hZ] at this;show Int.toNat _<_;omega
 obtain⟨a,b,ha,hbb,hne,hab⟩:=UM (fun a=>nA (2*Z+1) (y a) e) (fun a _=>vU e _ fun i hi=>hy a i hi) hlt;have hi:=DK e _ _ (fun i hi=>hy a i hi) (fun i hi=>hy b i hi) hab;refine⟨fun j=>(AY (X+1) a j:Int) - AY (X+1) b j,fun j=>?_,?_,fun i h=>?_⟩
 ·have:=AZ (X:=X+1) (by omega) a j;have:=AZ (X:=X+1) (by omega) b j;show Int.natAbs (_-_)<=X;omega
 ·rcases Classical.em (∃ j,j<n/\AY (X+1) a j≠AY (X+1) b j) with ⟨j,h1,h2⟩|hh
  ·exact⟨j,h1,by show _-_≠(0:Int);omega⟩
  ·exfalso;apply hne;refine E9 (by omega) n a b ha hbb fun j hj=>?_;rcases Classical.em (AY (X+1) a j=AY (X+1) b j) with h|h
   ·exact h
   ·exact absurd ⟨j,hj,h⟩ hh
 ·have h1:=hi i h;have h2:=hb a i h;have h3:=hb b i h;rw [<- hZ] at h2 h3;have h1:Int.toNat _=Int.toNat _:=h1;have:uP (fun j=>(AY (X+1) a j:Int)*M i j) n=uP (fun j=>(AY (X+1) b j:Int)*M i j) n:=by omega
  rw [show (fun j=>((AY (X+1) a j:Int)-AY (X+1) b j)*M i j)=fun j=>(AY (X+1) a j:Int)*M i j-(AY (X+1) b j:Int)*M i j from funext fun j=>Int.sub_mul _ _ _,GX,this];omega
end Q
end
section
namespace Q
namespace MP
inductive Sq (v:Nat) (p q:MP):MP->MP->Prop
 | base:Sq v p q p q
 | step {x y z k t e:MP}:Sq v p q x y->y≠0->k≠0->k.lo v->e≠0->e.fr v->k*x=t*y+e*z->z.deg v<y.deg v->Sq v p q y z
theorem uQ {a:MP} {v:Nat} (h:a.fr v) (h0:a≠0):a.deg v=0:=by have:=deg_pos h0 v;have h':a.deg v<=0:=h;omega
theorem DL {v:Nat} {x y z k t e f S T c:MP} (y0:y≠0) (k0:k≠0) (e0:e≠0) (ef:e.fr v) (kf:k.fr v) (hst:k*x=t*y+e*z) (hlt:z.deg v<y.deg v)
  {K:Int} (hf:f.deg v<=K) (hK:K<y.deg v) (c0:c≠0) (cf:c.fr v) (hc:c*f=S*x+T*y) (hS:S=0\/S.deg v<y.deg v-K) (hne:S≠0\/T≠0) :
  (k*c)*f=(S*t+k*T)*y+(S*e)*z/\(S*t+k*T=0\/(S≠0/\(S*t+k*T).deg v+y.deg v<=S.deg v+z.deg v))/\(S*t+k*T≠0\/S*e≠0):=by
 have heq:(k*c)*f=(S*t+k*T)*y+(S*e)*z:=by
  have h1:(k*c)*f=S*(k*x)+k*T*y:=by
   have:(k*c)*f=k*(c*f):=by grind
   rw [this,hc];grind
  rw [h1,hst];grind
 refine⟨heq,?_,?_⟩
 ·by_cases hA:S*t+k*T=0
  ·exact .inl hA
  ·refine .inr ?_;have hAy:(S*t+k*T)*y=(k*c)*f-(S*e)*z:=by rw [heq];grind
   have hd:=deg_mul hA y0 v;have h1:=oz v ((k*c)*f) ((S*e)*z);rw [<- hAy,hd] at h1;have hA0:=deg_pos hA v
   have h2:((k*c)*f).deg v<=max K (-1):=by
    by_cases hf0:f=0
    ·have e':(k*c)*f=0:=by rw [hf0];grind
     rw [e',deg_zero];omega
    ·rw [deg_mul (mul_ne k0 c0) hf0,uQ (sJ kf cf) (mul_ne k0 c0)];omega
   by_cases hS0:S=0
   ·exfalso;have e':(S*e)*z=0:=by rw [hS0];grind
    rw [e',deg_zero] at h1;have:=deg_pos y0 v;omega
   ·refine⟨hS0,?_⟩;by_cases hz:z=0
    ·exfalso;have e':(S*e)*z=0:=by rw [hz];grind
     rw [e',deg_zero] at h1;have:=deg_pos y0 v;omega
    ·have h3:((S*e)*z).deg v=S.deg v+z.deg v:=by
      rw [deg_mul (mul_ne hS0 e0) hz,deg_mul hS0 e0,uQ ef e0];omega
     rw [h3] at h1;have:=deg_pos y0 v;omega
 ·by_cases hS0:S=0
  ·have hT:=hne.resolve_left fun h=>h hS0;have e':S*t+k*T=k*T:=by rw [hS0];grind
   rw [e'];exact .inl (mul_ne k0 hT)
  ·exact .inr (mul_ne hS0 e0)
theorem Sq.comb {v:Nat} (hv:v<4) {p q x y:MP} (h:Sq v p q x y) {S T f:MP} (hf:f=S*p+T*q) {K:Int} (hfk:f.deg v<=K) (hS:S=0\/S.deg v<q.deg v-K) (hne:S≠0\/T≠0) :
  K<y.deg v->∃ c S' T':MP,c≠0/\c.lo v/\c*f=S'*x+T'*y/\(S'=0\/S'.deg v<y.deg v-K)/\(S'≠0\/T'≠0):=by
 induction h with
 | base=>exact fun _=>⟨1,S,T,one_ne,AO v,by rw [hf];grind,hS,hne⟩
 | step _ y0 k0 kf e0 ef hst hlt ih =>
  intro hk;obtain⟨c,S',T',c0,cf,hc,hS',hne'⟩:=ih (by omega);obtain⟨a1,a2,a3⟩:=DL y0 k0 e0 ef (kf v (Nat.le_refl v) hv) hst hlt hfk (by omega) c0 (cf v (Nat.le_refl v) hv) hc hS' hne';refine⟨_,_,_,mul_ne k0 c0,kI kf cf,a1,?_,a3⟩;rcases a2 with a2|⟨b1,b2⟩
  ·exact .inl a2
  ·rcases hS' with h|h
   ·exact absurd h b1
   ·exact .inr (by omega)
theorem Sq.dvd {v:Nat} (hv:v<4) {p q x y z k t e:MP} (h:Sq v p q x y) (y0:y≠0) (k0:k≠0) (kf:k.lo v) (e0:e≠0) (ef:e.fr v) (hst:k*x=t*y+e*z) (hlt:z.deg v<y.deg v) (z0:z≠0)
  {S T f:MP} (hf:f=S*p+T*q) {K:Int} (hfk:f.deg v<=K) (hS:S=0\/S.deg v<q.deg v-K) (hne:S≠0\/T≠0) (hK:K<y.deg v) (hzK:z.deg v<=K) :
  f≠0/\∃ c,c≠0/\c.lo v/\z∣c*f:=by
 obtain⟨c,S',T',c0,cf,hc,hS',hne'⟩:=h.comb hv hf hfk hS hne hK;obtain⟨a1,a2,a3⟩:=DL y0 k0 e0 ef (kf v (Nat.le_refl v) hv) hst hlt hfk hK c0 (cf v (Nat.le_refl v) hv) hc hS' hne'
 have hA:S'*t+k*T'=0:=by
  by_cases hA:S'*t+k*T'=0
  ·exact hA
  ·exfalso;obtain⟨b1,b2⟩:=a2.resolve_left hA;rcases hS' with h|h
   ·exact b1 h
   ·have:=deg_pos hA v;omega
 rw [hA] at a1;have e1:(0:MP)*y+S'*e*z=S'*e*z:=by grind
 rw [e1] at a1;refine⟨fun h0=>?_,_,mul_ne k0 c0,kI kf cf,⟨S'*e,by rw [a1];grind⟩⟩;rw [h0] at a1;have e2:k*c*(0:MP)=0:=by grind
 rw [e2] at a1;rcases mul_eq_zero.1 a1.symm with h|h
 ·exact a3.elim (fun h'=>h' hA) fun h'=>h' h
 ·exact z0 h
theorem uR (f:Nat->MP) (a:Nat):∀ b,bZ f (a+b)=bZ f a+bZ (fun j=>f (a+j)) b
 | 0=>by rw [Nat.add_zero,bZ];grind
 | b+1=>by rw [<- Nat.add_assoc,bZ,uR f a b,bZ];grind
theorem oC (f:Nat->MP) {k:Nat}:∀ {n:Nat},k<n->(∀ j,j<n->j≠k->f j=0)->bZ f n=f k
 | 0,h,_=>by omega
 | n+1,h,hz=>by
  rw [bZ];rcases Nat.eq_or_lt_of_le (show k<=n by omega) with e|hk
  ·subst e;rw [dF (g:=fun _=>0) fun j hj=>hz j (by omega) (by omega),mD];grind
  ·rw [oC f hk fun j hj=>hz j (by omega),hz n (by omega) (by omega)];grind
theorem rC (v i:Nat) (f:Nat->MP):∀ n,(bZ f n).co v i=bZ (fun j=>(f j).co v i) n
 | 0=>rfl
 | n+1=>by rw [bZ,co_add,rC v i f n];rfl
theorem oD {v:Nat} {f:Nat->MP} {d:Int} (hd:-1<=d):∀ {n:Nat},(∀ j,j<n->(f j).deg v<=d)->(bZ f n).deg v<=d
 | 0,_=>by rw [bZ,deg_zero];exact hd
 | n+1,h=>by
  have h1:=oD hd (n:=n) fun j hj=>h j (by omega);have h2:=h n (by omega);rw [bZ];have:=rA v (bZ f n) (f n);omega
theorem ui (f:Nat->MP) (c:MP) (n:Nat):bZ (fun i=>f i*c) n=bZ f n*c:=by
 rw [dF (g:=fun i=>c*f i) fun i _=>by grind,qA];grind
theorem dI (v:Nat) (a b:MP) {x y:Int} (hx:a.deg v<=x) (hy:b.deg v<=y) (h:-1<=x+y):(a*b).deg v<=x+y:=by
 by_cases ha:a=0
 ·have e:a*b=0:=by rw [ha];grind
  rw [e,deg_zero];exact h
 ·by_cases hb:b=0
  ·have e:a*b=0:=by rw [hb];grind
   rw [e,deg_zero];exact h
  ·rw [deg_mul ha hb];omega
theorem xQ (v i:Nat) (p:MP) {w:Nat} (hw:w<4) (hv:v<4) {d:Nat} (h:p.deg w<=d):(p.co v i).deg w<=d:=by
 have:=xO v i p hw hv;omega
theorem Ub {v i:Nat} {p:MP} {w:Nat} (hw:w<4) (hv:v<4) (h:p.fr w):(p.co v i).fr w:=by
 have:=xO v i p hw hv;have h':p.deg w<=0:=h;show (p.co v i).deg w<=0;omega
theorem uj {v w k:Nat} (hw:w<4) (hv:v<4) (h:v≠w):(xk v k).deg w=0:=by
 show max (-1) ((e0.put v k).get w)=0;rw [Ex.get_put_ne _ hv hw h,AL];rfl
theorem fe (v k n:Nat):(xk v k).co v n=if n=k then 1 else 0:=by
 have e:xk v k=xk v k*1:=by grind
 rw [e,co_xk];by_cases h:k<=n
 ·rw [if_pos h];by_cases h2:n=k
  ·rw [if_pos h2,h2,Nat.sub_self,AP (qd v)]
  ·rw [if_neg h2,JF (qd v) (by omega)]
 ·rw [if_neg h,if_neg (by omega)]
def Uc (v w:Nat) (R A:Nat) (p q:MP) (j:Nat):MP :=
 if j<A then (xk w (j % R)*xk v (j / R))*p else (xk w ((j-A) % R)*xk v ((j-A) / R))*q
theorem JG {v w:Nat} (hv:v<4) (hw:w<4) (hvw:v≠w) {p q:MP} {m n k d:Nat} (hm:p.deg v<=m) (hn:q.deg v<=n) (hkm:k<m) (hkn:k<n) (hp:p.deg w<=d) (hq:q.deg w<=d) :
  ∃ S T:MP,(S≠0\/T≠0)/\S.deg v<n-k/\(S*p+T*q).deg v<=k/\(S*p+T*q).deg w<=(((m+n-2*k)*d:Nat):Int):=by
 obtain⟨u,hu⟩:∃ u,u=m+n - 2*k:=⟨_,rfl⟩;obtain⟨R,hR⟩:∃ R,R=(u - 1)*d+1:=⟨_,rfl⟩;have hR0:0<R:=by omega
 obtain⟨nS,hS⟩:∃ nS,nS=n - k:=⟨_,rfl⟩;obtain⟨nT,hT⟩:∃ nT,nT=m - k:=⟨_,rfl⟩;have huST:u=nS+nT:=by omega
 have hd1:R-1+d=u*d:=by
  have:u*d=(u-1)*d+d:=by rw [<- Nat.succ_mul];congr 1;omega
  omega
 obtain⟨R',hR'⟩:∃ R',R'=u*d+1:=⟨_,rfl⟩
 let mo:Nat->MP:=fun j=>xk w (j % R)*xk v (j / R)
 have mow:∀ j,(mo j).deg w<=(R-1:Nat):=fun j=>by
  show (xk w (j % R)*xk v (j / R)).deg w<=_;rw [deg_mul (xk_ne _ _) (xk_ne _ _),deg_xk,uj hw hv hvw];have:=Nat.mod_lt j hR0;omega
 have mov:∀ j,(mo j).deg v=(j / R:Nat):=fun j=>by
  show (xk w (j % R)*xk v (j / R)).deg v=_;rw [deg_mul (xk_ne _ _) (xk_ne _ _),deg_xk,uj hv hw (Ne.symm hvw)];omega
 have hbw:∀ j,(Uc v w R (nS*R) p q j).deg w<=(u*d:Nat):=fun j=>by
  unfold Uc;split
  ·exact Int.le_trans (dI w _ _ (mow j) hp (by omega)) (by omega)
  ·exact Int.le_trans (dI w _ _ (mow (j-nS*R)) hq (by omega)) (by omega)
 have hbv:∀ j,j<u*R->(Uc v w R (nS*R) p q j).deg v<=(m+n-k-1:Nat):=fun j hj=>by
  unfold Uc;split
  ·rename_i h;have h1:j / R<nS:=(Nat.div_lt_iff_lt_mul hR0).2 h;have h2:=mov j;obtain⟨c,hc⟩:∃ c:Nat,c=j / R:=⟨_,rfl⟩;rw [<- hc] at h1 h2;exact Int.le_trans (dI v _ _ (Int.le_of_eq h2) hm (by omega)) (by omega)
  ·rename_i h;have h1:(j - nS*R) / R<nT:=(Nat.div_lt_iff_lt_mul hR0).2 (by rw [huST,Nat.add_mul] at hj;omega);have h2:=mov (j - nS*R);obtain⟨c,hc⟩:∃ c:Nat,c=(j - nS*R) / R:=⟨_,rfl⟩;rw [<- hc] at h1 h2;exact Int.le_trans (dI v _ _ (Int.le_of_eq h2) hn (by omega)) (by omega)
 obtain⟨s,s1,⟨j0,j1,j2⟩,s3⟩:=UL (P:=fun a=>a.fr v/\a.fr w) ⟨qd v,qd w⟩
  (fun a b h h'=>⟨by have:=rA v a b;have h1:a.deg v<=0:=h.1;have h2:b.deg v<=0:=h'.1;show (a+b).deg v<=0;omega,by have:=rA w a b;have h1:a.deg w<=0:=h.2;have h2:b.deg w<=0:=h'.2;show (a+b).deg w<=0;omega⟩)
  (fun a b h h'=>⟨sJ h.1 h'.1,sJ h.2 h'.2⟩)
  (fun a h=>⟨Int.le_trans (EZ v a) h.1,Int.le_trans (EZ w a) h.2⟩)
  ((u-1)*R') (u*R) (fun i j=>((Uc v w R (nS*R) p q j).co v (k+1+i / R')).co w (i % R'))
  (fun i j _ _=>⟨Ub hv hw (co_fr _ _ _),co_fr _ _ _⟩)
  (by
   rw [hR',hR];have h1:(u-1)*(u*d+1)=(u-1)*(u*d)+(u-1):=by rw [Nat.mul_add,Nat.mul_one]
   have h2:u*((u-1)*d+1)=u*((u-1)*d)+u:=by rw [Nat.mul_add,Nat.mul_one]
   have h3:(u-1)*(u*d)=u*((u-1)*d):=Nat.mul_left_comm _ _ _
   rw [h1,h2,h3];omega)
 let S:MP:=bZ (fun j=>s j*mo j) (nS*R)
 let T:MP:=bZ (fun j=>s (nS*R+j)*mo j) (nT*R)
 have hST:S*p+T*q=bZ (fun j=>s j*Uc v w R (nS*R) p q j) (u*R):=by
  rw [huST,Nat.add_mul,uR,<- ui,<- ui]
  congr 1
  ·refine dF fun j hj=>?_;simp only [Uc,if_pos hj];show s j*mo j*p=_;grind
  ·refine dF fun j hj=>?_;simp only [Uc,if_neg (show ¬ nS*R+j<nS*R by omega),show nS*R+j-nS*R=j by omega];show s (nS*R+j)*mo j*q=_;grind
 have hfw:(S*p+T*q).deg w<=(u*d:Nat):=by
  rw [hST];refine oD (by omega) fun j hj=>?_;have:=dI w (s j) _ (s1 j hj).2 (hbw j) (by omega);omega
 have hfv:(S*p+T*q).deg v<=(m+n-k-1:Nat):=by
  rw [hST];refine oD (by omega) fun j hj=>?_;have:=dI v (s j) _ (s1 j hj).1 (hbv j hj) (by omega);omega
 have hco:∀ l:Nat,k<l->(S*p+T*q).co v l=0:=fun l hl=>by
  rcases Nat.lt_or_ge l (m+n - k) with hlt|hge
  ·obtain⟨g,hg⟩:∃ g,g=(S*p+T*q).co v l:=⟨_,rfl⟩;rw [<- hg];have hgw:g.deg w<=(u*d:Nat):=by rw [hg];exact xQ v l _ hw hv hfw
   have hz:∀ b,g.co w b=0:=fun b=>by
    rcases Nat.lt_or_ge b R' with hb|hb
    ·have hi:(l-(k+1))*R'+b<(u-1)*R':=by
      have h1:l-(k+1)+1<=u-1:=by omega
      have:=Nat.mul_le_mul_right R' h1;rw [Nat.succ_mul] at this;omega
     have:=s3 _ hi
     have e1:((l-(k+1))*R'+b) / R'=l-(k+1):=by
      rw [Nat.add_comm,Nat.add_mul_div_right _ _ (by omega),Nat.div_eq_of_lt hb,Nat.zero_add]
     have e2:((l-(k+1))*R'+b) % R'=b:=by
      rw [Nat.add_comm,Nat.add_mul_mod_self_right,Nat.mod_eq_of_lt hb]
     simp only [e1,e2,show k+1+(l-(k+1))=l by omega] at this;rw [hg,hST,rC,rC,<- this];refine dF fun j hj=>?_;rw [co_mul_fr (s1 j hj).1,co_mul_fr (s1 j hj).2]
    ·exact co_above (by omega)
   have:=split w g (N:=R') (by omega);rw [this,dF (g:=fun _=>0) fun i _=>by rw [hz i];grind,mD]
  ·exact co_above (by omega)
 have hne:∀ (f:Nat->MP) (N:Nat),(∀ j,j<N->(f j).fr v/\(f j).fr w)->bZ (fun j=>f j*mo j) N=0->∀ j,j<N->f j=0:=by
  intro f N hf h0 j hj;have h1:=congrArg (fun g=>(g.co v (j / R)).co w (j % R)) h0;simp only [rC] at h1;rw [oC _ hj ?_] at h1
  ·rw [co_mul_fr (hf j hj).1] at h1
   have e:(mo j).co v (j / R)=xk w (j % R):=by
    show (xk w (j % R)*xk v (j / R)).co v (j / R)=_;rw [co_mul_fr (show (xk w (j % R)).fr v from by show (xk w (j % R)).deg v<=0;rw [uj hv hw (Ne.symm hvw)];omega),fe,if_pos rfl];grind
   rw [e,co_mul_fr (hf j hj).2,fe,if_pos rfl] at h1;have e2:(0:MP).co v (j / R)=0:=rfl;have e3:(0:MP).co w (j % R)=0:=rfl;rw [e2,e3] at h1;grind
  ·intro i hi hij;show ((f i*mo i).co v (j / R)).co w (j % R)=0;rw [co_mul_fr (hf i hi).1];show (f i*(xk w (i % R)*xk v (i / R)).co v (j / R)).co w (j % R)=0;rw [co_mul_fr (show (xk w (i % R)).fr v from by show (xk w (i % R)).deg v<=0;rw [uj hv hw (Ne.symm hvw)];omega),fe];by_cases h1:j / R=i / R
   ·rw [if_pos h1];have h2:j % R≠i % R:=fun h2=>hij (by have:=Nat.div_add_mod j R;have:=Nat.div_add_mod i R;rw [h1,h2] at *;omega);have e:f i*(xk w (i % R)*1)=f i*xk w (i % R):=by grind
    rw [e,co_mul_fr (hf i hi).2,fe,if_neg h2];grind
   ·rw [if_neg h1];have e:f i*(xk w (i % R)*0)=0:=by grind
    rw [e];rfl
 refine⟨S,T,?_,?_,deg_le_of (by omega) fun l hl=>hco l (by omega),?_⟩
 ·by_cases hS0:S=0
  ·refine .inr fun hT0=>j2 ?_;have hlt1:nS*R<=u*R:=Nat.mul_le_mul_right R (by omega);rcases Nat.lt_or_ge j0 (nS*R) with h|h
   ·exact hne s _ (fun j hj=>s1 j (by omega)) hS0 j0 h
   ·have hlt2:u*R=nS*R+nT*R:=by rw [huST,Nat.add_mul]
    have:=hne (fun j=>s (nS*R+j)) (nT*R) (fun j hj=>s1 _ (by omega)) hT0 (j0-nS*R) (by omega);simp only [show nS*R+(j0-nS*R)=j0 by omega] at this;exact this
  ·exact .inl hS0
 ·have:S.deg v<=(nS-1:Nat):=oD (by omega) fun j hj=>by
   have h1:j / R<nS:=(Nat.div_lt_iff_lt_mul hR0).2 hj;have hlt1:nS*R<=u*R:=Nat.mul_le_mul_right R (by omega);have h2:=mov j;obtain⟨c,hc⟩:∃ c:Nat,c=j / R:=⟨_,rfl⟩;rw [<- hc] at h1 h2;have:=dI v (s j) (mo j) (s1 j (by omega)).1 (Int.le_of_eq h2) (by omega);omega
  omega
 ·rw [<- hu];exact hfw
end MP
end Q
end
