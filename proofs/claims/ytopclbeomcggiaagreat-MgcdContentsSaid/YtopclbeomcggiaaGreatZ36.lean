/- Where the sizes do, the greatest common divisor answers. No program in sight. -/
import Derived.Test.YtopclbeomcggiaaGreatZ35
set_option linter.unusedVariables false
set_option linter.unusedSimpArgs false
set_option maxHeartbeats 16000000
set_option maxRecDepth 100000
section
namespace Q
open MP Go.Proofs.YtopclbeomcggiaaGreat
structure uE where
 M:Nat
 d:Nat
 b:Nat
 E:Nat
 br:Nat
 kE:Nat
 k0:Nat
 lM:Nat
 P:Nat
 R:Nat->Nat
 l2:Nat->Nat
 xi:Nat->Nat
 kap:Nat->Nat
namespace uE
def bE (L:uE):Nat:=L.br+L.kE
def cz (L:uE) (v x:Nat):Nat:=if v=0 then 0 else x+L.kE
def b1 (L:uE) (v:Nat):Nat:=if v=0 then L.b else L.b+(L.b+L.k0)
def mu (L:uE) (v U:Nat):Nat:=if U=1 then L.b1 v else L.l2 U+L.b1 v+L.xi U+L.kap U
def U (L:uE) (k:Nat):Nat:=2*L.M+2-2*k
end uE
structure vO (v:Nat) (L:uE):Prop where
 hv:v<4
 hlM:L.M<=2^L.lM
 k0:vK (jk v L.d L.M) (v+1)<=2^L.k0
 kE:vK (jk v L.E 0) v<=2^L.kE
 mono:∀U,U<2*L.M->1<=U->L.mu v U<=L.mu v (U+1)
 sg:∀U,U<2*L.M+1->2<=U->0<L.R U/\2*U*L.R U^v<=2^L.l2 U/\(L.l2 U+L.b1 v+L.xi U)*((U-1)*(L.R U+L.d)^v)<L.xi U*(U*L.R U^v)/\vK (jk v (L.R U-1+L.d) L.M) (v+1)<=2^L.kap U
 p1:(L.M+1)*(1*L.d)<=L.P/\(L.M+1)*(L.b1 v+1)+L.lM<LB
 pk:∀k,k<L.M+1->2<=k->(k+1)*(L.U k*L.d)<=L.P/\(k+1)*(L.mu v (L.U k)+1)+L.lM<LB
 bP:(L.M+1)*(L.P+1)^v<=10000
 e1:L.M*(1*L.d)<=L.E/\L.M*(L.b1 v+1)+L.lM<=L.br
 ek:∀k,k<L.M+1->3<=k->k*(L.U k*L.d)<=L.E/\k*(L.mu v (L.U k)+1)+L.lM<=L.br
 dE:L.d<=L.E/\L.b<=L.br/\L.E<=L.P/\1<=L.M
 x1:L.br+L.mu v (2*L.M)+L.cz v L.br<LB
 x2:L.b1 v+L.cz v L.b<LB
 dv:bx (WQ v L.d (UM v L.d L.M))<=10000/\L.b1 v+L.b1 v+(bx (WQ v L.d (UM v L.d L.M))+1)*(L.b1 v+1)<LB
 fin:L.bE+L.mu v (2*L.M)<LB
 fl:L.M+1<fuel
def RS (d:Nat->Nat) (b:Nat) (G:List ai->List ai->Option (List ai)):Prop:=∀x y:MP,Dg d x->Dg d y->In b x->In b y->∃r,G x.l y.l=some r
theorem PO{g:MP}(h:hd g=1):nrm g=g:=by rw[nrm,h,(dK:(1:Rat)/1=1),DJ];grind
theorem EU{v:Nat}{L:uE}(h:vO v L){x:Nat}{g f:MP}(hg:hd g=1)(f0:f≠0)(hd:g∣f)(b:Dg (jk v L.E 0) f)(j:In x f):Dg (jk v L.E 0) g/\In (L.cz v x) g:=by
 have hv:=h.hv;refine⟨b.dvd f0 hd,?_⟩;unfold uE.cz;split
 ·rename_i e;subst e;obtain⟨r,rfl⟩:=oH (jW f0 hd b.lo0);have k:r≠0:=λe=>by rw[e,S9]at hg;cases hg
  have d:=uw k 1;have i:c r*1=c r:=gR;rw[i,hg,Az,Rat.one_mul]at d;rw[<-d,DJ];exact In.one 0
 ·have:=j.fac (n:=v) oM f0 hd b.lo0 b h.kE;rwa[PO hg]at this
theorem XB{v:Nat}{L:uE}{x:Nat}(b:x<=L.br):L.cz v x<=L.bE:=by unfold uE.cz uE.bE;split<;>omega
def zaK (v:Nat) (L:uE) (x:Nat) (l:List ai):Prop:=∃f:MP,f.l=l/\Dg (jk v L.E 0) f/\In x f
theorem PP{v x:Nat}{L:uE}(h:vO v L)(B:x<=L.br){G:List ai->List ai->Option (List ai)}(s:Pz G)(y:RS (jk v L.E 0) L.bE G):∀(l:List (List ai))(b:MP),(∀c∈l,zaK v L x c) ->
  (b=0\/(hd b=1/\∃f:MP,f≠0/\b∣f/\Dg (jk v L.E 0) f/\In x f))->∃r,vF G b.l l=some r
 | [],b,_,_=>⟨_,rfl⟩
 | c::l,b,hl,ha=>by
  obtain⟨f,rfl,p,hf⟩:=hl c sM
  have d:Dg (jk v L.E 0) b/\In L.bE b:=by
   rcases ha with e|⟨D,q,f0,k,m,o⟩
   ·rw[e];exact⟨λw _=>by rw[deg_zero];omega,In.zero _⟩
   ·obtain⟨a1,a2⟩:=EU h D f0 k m o;exact⟨a1,a2.mono (XB B)⟩
  obtain⟨r,z⟩:=y b f d.1 p d.2 (hf.mono (by unfold uE.bE;omega));obtain⟨g,rfl,hg⟩:=s b f r z;rw[vF,z];simp only;split
  ·exact⟨_,rfl⟩
  ·refine PP h B s y l g (λc hc=>hl c (by simp[hc])) ?_;by_cases j:g=0
   ·exact .inl j
   ·refine .inr ⟨hg.n j,?_⟩;by_cases f0:f=0
    ·rcases ha with e|⟨-,q,C,k,m,o⟩
     ·exact absurd (zero_dvd (hg.i.u 0 (by rw[e];exact dvd_refl 0) (by rw[f0];exact dvd_refl 0))) j
     ·exact⟨q,C,dvd_trans hg.i.l k,m,o⟩
    ·exact⟨f,f0,hg.i.r,p,hf⟩
theorem Oa{v x:Nat}{L:uE}(h:vO v L){a:MP}(la:a.lo (v+1))(ha:∀w,w<v->a.deg w<=L.E)(e:In x a)(n:Nat):Dg (jk v L.E 0) (a.co v n)/\In x (a.co v n):=by
 refine⟨λw b=>?_,e.co v n⟩;unfold jk;split
 ·exact wm v n a b h.hv (ha w aM)
 ·have d:(a.co v n).deg w<=0:=JQ h.hv la w oM b;split<;>exact d
theorem EW{v x:Nat}{L:uE}(h:vO v L)(s:x<=L.br){G:List ai->List ai->Option (List ai)}(j:Pz G)(q:RS (jk v L.E 0) L.bE G){a:MP}(la:a.lo (v+1))(ha:∀w,w<v->a.deg w<=L.E)(o:In x a) :
  ∃g:MP,lI G a.l v=some g.l/\mX v g a/\(g≠0->hd g=1)/\(a≠0->Dg (jk v L.E 0) g/\In (L.cz v x) g):=by
 obtain⟨r,m⟩:=PP h s j q (aB a.l v) 0 (λc hc=>by
  obtain⟨n,e⟩:=gQ hc;obtain⟨b,i⟩:=Oa h la ha o n
  exact⟨a.co v n,e.symm,b,i⟩) (.inl rfl)
 obtain⟨g,rfl,hg,k⟩:=qQ j (a:=a) (v:=v) m;refine⟨g,m,hg,k,λa0=>?_⟩;have p:=dvd_ne a0 hg.d;obtain⟨b,i⟩:=Oa h la ha o (a.deg v).toNat;exact EU h (k p) (lc_ne a0 v) ((dvd_iff_co hg.f a).1 hg.d _) b i
theorem PQ{v:Nat}{L:uE}(h:vO v L){U:Nat}(b:1<=U):∀k:Nat,U+k<=2*L.M->L.mu v U<=L.mu v (U+k)
 | 0,_=>nL _
 | k+1,hk=>Nat.le_trans (PQ h b k (by omega)) (h.mono (U+k) (by omega) (by omega))
theorem LQ{v:Nat}{L:uE}(h:vO v L){U b:Nat}(d:1<=U)(e:U<=b)(i:b<=2*L.M):L.mu v U<=L.mu v b:=by have:=PQ h d (b - U) oM;rwa[(oM:U+(b - U)=b)]at this
theorem LW{v:Nat}{L:uE}(h:vO v L){G:List ai->List ai->Option (List ai)}(hG:Pz G)(hX:RS (jk v L.E 0) L.bE G)
  {p q:MP} (p0:p≠0) (q0:q≠0) (lp:p.lo (v+1)) (lq:q.lo (v+1)) (hp:∀w,w<v->p.deg w<=L.d) (hq:∀w,w<v->q.deg w<=L.d) (ip:In (L.b1 v) p) (iq:In (L.b1 v) q) (hm:p.deg v<=L.M) (hn:q.deg v<=L.M) :
  ∀(n:Nat)(x y:MP)(U:Nat),y.deg v<n->Sq v p q x y->x.prim v->y.prim v->x.lo (v+1)->y.lo (v+1)->(∀w,w<v->x.deg w<=((U*L.d:Nat):Int))->(∀w,w<v->y.deg w<=((U*L.d:Nat):Int))->In (L.mu v U) x->In (L.mu v U) y ->
   1<=U->U<=2*L.M->(U=1\/((U:Int)+2*x.deg v=2*(L.M:Int)+2/\y.deg v<x.deg v))->1<=y.deg v->y.deg v<=x.deg v->x.deg v<=L.M->y.deg v<=p.deg v->y.deg v<=q.deg v ->
   ∃s:MP,sQ G v n x.l y.l=some s.l/\In (L.mu v (2*L.M)) s
 | 0,x,y,U,hlt,_,_,_,_,_,_,_,_,_,_,_,_,u,_,_,_,_=>by omega
 | n+1,x,y,U,hlt,hS,px,py,lx,ly,dx,dy,ix,iy,hU1,hU2,hUc,hy1,hyx,hxM,hyp,hyq=>by
  have hv:=h.hv;have y0:=fG py;have x0:=fG px;obtain⟨k,hk⟩:∃k:Nat,x.deg v=k:=⟨(x.deg v).toNat,oM⟩;obtain⟨j,hj⟩:∃j:Nat,y.deg v=j:=⟨(y.deg v).toNat,oM⟩
  have a0:(k-j+1+1)*(U*L.d)<=L.P/\(k-j+1+1)*(L.mu v U+1)+L.lM<LB:=by
   rcases hUc with e|⟨e,W⟩
   ·subst e;have u:=h.p1;have D:=Nat.mul_le_mul_right (1*L.d) (oM:k-j+1+1<=L.M+1);have K:=Nat.mul_le_mul_right (L.mu v 1+1) (oM:k-j+1+1<=L.M+1);have h4:L.mu v 1=L.b1 v:=if_pos rfl;rw[h4]at K ⊢;omega
   ·have u:=h.pk k oM oM;have e2:L.U k=U:=by unfold uE.U;omega
    rw[e2]at u;have D:=Nat.mul_le_mul_right (U*L.d) (oM:k-j+1+1<=k+1);have K:=Nat.mul_le_mul_right (L.mu v U+1) (oM:k-j+1+1<=k+1);omega
  obtain⟨r1,r2,r3,r4,r5⟩:=Rn (M:=L.M) (s:=k - j+1) (lM:=L.lM) hv y0 lx ly dx dy ix iy oM oM h.hlM
   (Nat.le_trans (Nat.mul_le_mul_left _ (Nat.pow_le_pow_left (by have:=a0.1;omega) v)) h.bP) a0.2
  obtain⟨t,s',J,ad⟩:=Aw (a:=x) y0 v;obtain⟨r,hr⟩:∃r,r=nu v x y:=⟨_,rfl⟩;rw[<-hr]at r1 r2 r3 r4 r5 J ad;rw[sQ,r1];have X:L.mu v U<=L.mu v (2*L.M):=LQ h hU1 hU2 (nL _)
  cases er:r.l with
  | nil=>exact⟨y,rfl,iy.mono X⟩
  | cons a l =>
   simp only;have z:r≠0:=λe=>by rw[zero_iff.1 e]at er;cases er
   split
   ·exact⟨1,by rw[rH],In.one _⟩
   ·rename_i a8
    have ag:1<=r.deg v:=by
     have u:=deg_pos z v;have D:r.deg v≠0:=by show aH r.l v≠0;rw[er];exact a8
     omega
    have Z:(k-j+1+1)*(U*L.d)<=L.E/\(k-j+1+1)*(L.mu v U+1)+L.lM<=L.br:=by
     rcases hUc with e|⟨e,W⟩
     ·subst e;have u:=h.e1;have D:=Nat.mul_le_mul_right (1*L.d) (oM:k-j+1+1<=L.M);have K:=Nat.mul_le_mul_right (L.mu v 1+1) (oM:k-j+1+1<=L.M);have h4:L.mu v 1=L.b1 v:=if_pos rfl;rw[h4]at K ⊢;omega
     ·have u:=h.ek k oM oM;have e2:L.U k=U:=by unfold uE.U;omega
      rw[e2]at u;have D:=Nat.mul_le_mul_right (U*L.d) (oM:k-j+1+1<=k);have K:=Nat.mul_le_mul_right (L.mu v U+1) (oM:k-j+1+1<=k);omega
    have a1:∀w,w<v->r.deg w<=L.E:=λw hw=>by have:=r3 w hw;have:=Z.1;omega
    have a2:In L.br r:=r2.mono Z.2;obtain⟨g,c1,c2,c3,c4⟩:=EW h (nL _) hG hX r5 a1 a2;obtain⟨c5,c6⟩:=c4 z;obtain⟨i,o,I,C⟩:=jE c2 z;have b:=fG I;have a4:i.lo (v+1):=zi C b o r5;have a9:g.deg v=0:=uV c2.f C;have ap:i.deg v=r.deg v:=by rw[o,deg_mul C b,a9];omega
    have aq:2<=j:=oM;have B:2<=L.U j/\L.U j<=2*L.M:=by unfold uE.U;omega
    have a7:((L.U j:Nat):Int)+2*y.deg v=2*(L.M:Int)+2:=by rw[hj];unfold uE.U;omega
    obtain⟨s1,s2,s3,s4⟩:=h.sg (L.U j) oM B.1;have S:=AA hv ly s';have H:=I6 (lc_ne y0 v) s';have a3:(y.lc v)^s'*x=t*y+g*i:=by rw[<-o];exact J
    obtain⟨m1,m2⟩:=LP hv hS y0 H S C c2.f a3 oM b I a4 p0 q0 lp lq hp hq ip iq hm hn hyp hyq oM s1 s2 rfl s3 s4;have a5:L.l2 (L.U j)+L.b1 v+L.xi (L.U j)+L.kap (L.U j)=L.mu v (L.U j):=by rw[uE.mu,if_neg oM]
    rw[a5]at m2;have ao:L.mu v (L.U j)<=L.mu v (2*L.M):=LQ h oM B.2 (nL _)
    have F:In (L.br+L.mu v (L.U j)) i:=by
     have e1:hd r=hd i:=by rw[o,EO C b,c3 C,Rat.one_mul]
     have D:=(a2.hd z).mul m2;rwa[e1,<-EQ b]at D
    have ar:=h.x1
    have O:bx (jk v L.E L.M)<=10000:=by rw[Jd hv];exact Nat.le_trans (Nat.mul_le_mul_left _ (Nat.pow_le_pow_left (by have:=h.dE.2.2.1;omega) v)) h.bP
    have oV:Dg (jk v L.E L.M) r:=NZ r5 a1 oM;have Y:=zq C (o.trans (gX g i)) oV O F c6 oM;have R:Dg (jk v L.E L.M) i:=oV.dvd z ⟨g,o.trans (gX g i)⟩;have ab:=qR R F O oM
    have ac:lJ G (a::l) v=some i.l:=by rw[er]at Y c1;rw[lJ];simp only[c1];exact Y
    have N:nrm i≠0:=I5 b
    have m:∀w,(nrm i).deg w=i.deg w:=λw=>by have u:=dvd_deg b (iD b).1 w;have D:=dvd_deg N (iD b).2 w;omega
    have aa:=Bz b
    have a6:Sq v p q y (nrm i):=by refine hS.step y0 H S (e:=g*c (hd i)) (mul_ne C (vJ aa)) (rQ c2.f (qf _ v)) (t:=t) ?_ (by rw[m];omega);rw[a3];have u:g*c (hd i)*nrm i=g*(c (hd i)*nrm i):=gR;rw[u,<-EQ b]
    obtain⟨s,al,an⟩:=LW h hG hX p0 q0 lp lq hp hq ip iq hm hn n y (nrm i) (L.U j) (by rw[m];omega) a6 py (sD I (iD b).1) ly (UK a4)
     (λw hw=>by
      have u:=dy w hw;have D:U*L.d<=L.U j*L.d:=Nat.mul_le_mul_right _ (by rcases hUc with e|⟨e,_⟩<;>omega)
      omega)
     (λw hw=>by rw[m];exact m1 w hw) (iy.mono (LQ h hU1 (by rcases hUc with e|⟨e,_⟩<;>omega) B.2)) m2 oM B.2 (.inr ⟨a7,by rw[m];omega⟩) (by rw[m];omega) (by rw[m];omega) oM (by rw[m];omega) (by rw[m];omega)
    refine⟨s,?_,an⟩;rw[ac];simp only;rw[ab];exact al
end Q
end
section
namespace Q
open MP Go Go.Proofs.YtopclbeomcggiaaGreat
theorem YV{G:List ai->List ai->Option (List ai)}{a b r:List ai}(h:BR G a b=some r):TU G a b=some r:=by
 unfold BR at h;unfold TU;split at h
 ·rename_i d;rw[if_pos d];exact h
 rename_i d;rw[if_neg d];split at h
 ·rename_i e;rw[if_pos e];exact h
 rename_i e;rw[if_neg e];split at h
 ·rename_i i;rw[if_pos i];exact h
 rename_i i;rw[if_neg i];obtain⟨v,hv,h⟩:=aX h;rw[hv];simp only[fP];split at h
 ·rename_i j;rw[if_pos j];exact h
 rename_i j;rw[if_neg j];split at h
 ·rename_i k;rw[if_pos k];exact h
 rename_i k;rw[if_neg k];obtain⟨x,l,h⟩:=aX h;obtain⟨y,m,h⟩:=aX h;obtain⟨g,hg,h⟩:=aX h;obtain⟨p,hp,h⟩:=aX h;obtain⟨q,hq,h⟩:=aX h;split at h
 ·cases h
 rw[l,m];simp only;rw[hg];simp only;rw[hp,hq];exact h
theorem zu:∀n,Pz (uG n)
 | 0=>λ_ _ _ h=>by cases h
 | n+1=>λa b r h=>WM (zu n) a b r (YV h)
theorem LX{v:Nat}{a b:MP}(h:0<a.deg v\/0<b.deg v)(la:a.lo (v+1))(lb:b.lo (v+1)):∀n,n<=4->v<n->uA [a.l,b.l] n=some v
 | 0,_,h=>by omega
 | n+1,hn,hv=>by
  rw[uA];rcases Nat.eq_or_lt_of_le (show v<=n by omega)with e|hlt
  ·subst e;rw[if_pos];simp only[List.any_cons,List.any_nil,Bool.or_false,Bool.or_eq_true,decide_eq_true_eq];exact h
  ·rw[if_neg]
   ·exact LX h la lb n (by omega) hlt
   ·simp only[List.any_cons,List.any_nil,Bool.or_false,Bool.or_eq_true,decide_eq_true_eq,not_or];have d:a.deg n<=0:=la n oM oM;have i:b.deg n<=0:=lb n oM oM;exact⟨by show ¬0<a.deg n;omega,by show ¬0<b.deg n;omega⟩
theorem GZ{v:Nat}{L:uE}(h:vO v L){a x p:MP}(a0:a≠0)(la:a.lo (v+1))(da:Dg (jk v L.d L.M) a)(k:In L.b a)(e:a=x*p)(l:hd x=1)(j:v=0->x=1):In (L.b1 v) p:=by
 unfold uE.b1;split
 ·rename_i i;have e1:a=p:=by rw[e,j i];grind
  rw[<-e1];exact k
 ·exact k.quot (n:=v+1) (by have:=h.hv;omega) a0 (e.trans (gX x p)) l la da h.k0
theorem PR{v:Nat}{L:uE}(h:vO v L){G:List ai->List ai->Option (List ai)}(D:Pz G)(F:RS (jk v L.E 0) L.bE G)
  {p q:MP} (z:p.prim v) (B:q.prim v) (e:Dg (jk v L.d L.M) p) (dq:Dg (jk v L.d L.M) q) (ip:In (L.b1 v) p) (j:In (L.b1 v) q) (x:1<=q.deg v) (i:q.deg v<=p.deg v) :
  ∃s:MP,BQ G p.l q.l v=some s.l/\In (L.mu v (2*L.M)) s:=by
 have hv:=h.hv;have J:=fG z;have C:=fG B;have n:=e.top hv;have o:=dq.top hv;have H:=h.fl;have e1:aH p.l v=p.deg v:=rfl;have e2:aH q.l v=q.deg v:=rfl;have k:L.mu v 1=L.b1 v:=if_pos rfl;have u:L.b1 v<=L.mu v (2*L.M):=by rw[<-k];exact LQ h (nL _) (by have:=h.dE.2.2.2;omega) (nL _)
 obtain⟨m,hm⟩:=xN (a:=p.l) (b:=q.l) (v:=v) oM oM [0,1,2];obtain⟨r,I⟩:=WR hv C (e.low hv) n (dq.low hv) e.lo dq.lo ip j h.dv.1 h.dv.2;unfold BQ Ah;rw[hm];simp only;split
 ·exact⟨1,by rw[rH],In.one _⟩
 ·rw[I];simp only;split
  ·exact⟨q,rfl,j.mono u⟩
  ·exact LW h D F J C e.lo dq.lo (e.low hv) (dq.low hv) ip j n o fuel p q 1 oM .base z B e.lo dq.lo
    (λw y=>by have:=e.low hv w y;omega) (λw y=>by have:=dq.low hv w y;omega) (by rw[k];exact ip) (by rw[k];exact j) (nL _) (by have:=h.dE.2.2.2;omega) (.inl rfl) x i n i (Int.le_refl _)
theorem PS{v:Nat}{L:uE}(h:vO v L){G:List ai->List ai->Option (List ai)}(I:Pz G)(F:RS (jk v L.E 0) L.bE G)(a1:RS (jk v L.E 0) L.bE (BR G)):RS (jk v L.d L.M) L.b (BR G):=λa b da o J ib=>by
 have hv:=h.hv;have H:=h.dE;have a2:=h.x2
 have j:bx (jk v L.d L.M)<=10000:=by rw[Jd hv];exact Nat.le_trans (Nat.mul_le_mul_left _ (Nat.pow_le_pow_left oM v)) h.bP
 have ao:L.b<=L.b1 v:=by unfold uE.b1;split<;>omega
 have X:L.b<LB:=oM;have B:L.b<=L.bE:=by unfold uE.bE;omega
 have low0:∀p:MP,Dg (jk v L.d L.M) p->p.deg v<=0->Dg (jk v L.E 0) p:=λp u hp=>NZ u.lo (λw hw=>by have:=u.low hv w hw;omega) hp;by_cases Y:a.deg v<=0/\b.deg v<=0
 ·exact a1 a b (low0 a da Y.1) (low0 b o Y.2) (J.mono B) (ib.mono B)
 unfold BR;split
 ·exact⟨_,qR o ib j X⟩
 rename_i ha;have a0:a≠0:=λe=>ha (zero_iff.1 e);split
 ·exact⟨_,qR da J j X⟩
 rename_i hb;have b0:b≠0:=λe=>hb (zero_iff.1 e);split
 ·exact⟨_,rfl⟩
 have a7:TT [a.l,b.l]=some v:=LX oM da.lo o.lo 4 oM hv;rw[a7];simp only[fP];have D:∀p:MP,Dg (jk v L.d L.M) p->∀w,w<v->p.deg w<=L.E:=λp u w hw=>by have:=u.low hv w hw;omega
 obtain⟨x,x1,x2,x3,x4⟩:=EW h H.2.1 I F da.lo (D a da) J;obtain⟨y,y1,y2,y3,y4⟩:=EW h H.2.1 I F o.lo (D b o) ib;obtain⟨x5,x6⟩:=x4 a0;obtain⟨y5,y6⟩:=y4 b0;have k:L.cz v L.b<=L.bE:=XB H.2.1;split
 ·rename_i h0;rw[x1];exact F x b x5 (low0 b o (Int.le_of_eq h0)) (x6.mono k) (ib.mono B)
 rename_i W;split
 ·rename_i h0;rw[y1];exact F a y (low0 a da (Int.le_of_eq h0)) y5 (J.mono B) (y6.mono k)
 rename_i S;rw[x1,y1];simp only;obtain⟨g',Z⟩:=F x y x5 y5 (x6.mono k) (y6.mono k);obtain⟨g,rfl,hg⟩:=I x y _ Z;obtain⟨p,N,pp,K⟩:=jE x2 a0;obtain⟨q,eq,pq,y0⟩:=jE y2 b0;have p0:=fG pp;have q0:=fG pq
 have a3:∀z:MP,v=0->hd z=1->Dg (jk v L.E 0) z->z=1:=λz e O h2=>by
  subst e;obtain⟨r,rfl⟩:=oH h2.lo0;have hr:r≠0:=λe=>by rw[e,S9]at O;cases O
  have R:=uw hr 1;have a5:c r*1=c r:=gR;rw[a5,O,Az,Rat.one_mul]at R;rw[<-R,DJ]
 have ip:=GZ h a0 da.lo da J N (x3 K) (λe=>a3 x e (x3 K) x5);have iq:=GZ h b0 o.lo o ib eq (y3 y0) (λe=>a3 y e (y3 y0) y5);have a8:=zq K (N.trans (gX x p)) da j ip x6 a2;have a9:=zq y0 (eq.trans (gX y q)) o j iq y6 a2;have aa:¬(p.l=[]\/q.l=[]):=λe=>e.elim (λe=>p0 (zero_iff.2 e)) λe=>q0 (zero_iff.2 e);rw[Z,a8,a9];simp only;rw[if_neg aa];have u:Dg (jk v L.d L.M) p:=da.dvd a0 ⟨x,N.trans (gX x p)⟩;have dq:Dg (jk v L.d L.M) q:=o.dvd b0 ⟨y,eq.trans (gX y q)⟩;have au:p.deg v=a.deg v:=by rw[N,deg_mul K p0,uV x2.f K];omega
 have av:q.deg v=b.deg v:=by rw[eq,deg_mul y0 q0,uV y2.f y0];omega
 have al:=deg_pos a0 v;have ap:=deg_pos b0 v;have an:a.deg v≠0:=S;have aq:b.deg v≠0:=W
 have hs:∃s:MP,FL G p.l q.l v=some s.l/\In (L.mu v (2*L.M)) s:=by
  unfold FL;split
  ·rename_i m;have m:p.deg v<q.deg v:=m;exact PR h I F pq pp dq u iq ip oM oM
  ·rename_i m;have m:¬p.deg v<q.deg v:=m;exact PR h I F pp pq u dq ip iq oM oM
 obtain⟨s,s1,s2⟩:=hs;rw[s1];simp only;have e3:L.mu v 1=L.b1 v:=if_pos rfl;have C:=h.fin;have ar:L.b1 v<=L.mu v (2*L.M):=by rw[<-e3];exact LQ h (nL _) oM (nL _)
 have ad:Wp p.l:=kS (uD u ip j oM);have ag:Wp q.l:=kS (uD dq iq j oM);obtain⟨s',es,ab⟩:=PG I hv ad ag u.lo dq.lo pp pq s1;have a4:s=s':=MP.eq_of es;subst a4;have a6:g*s∣a:=by rw[N];exact mul_dvd hg.i.l ab.l
 have g0:=dvd_ne K hg.i.l
 have ig:In L.bE g:=by obtain⟨O,h2⟩:=Oa h da.lo (D a da) J (a.deg v).toNat;have h3:g∣a.lc v:=dvd_trans hg.i.l ((dvd_iff_co x2.f a).1 x2.d _);exact(EU h (hg.n g0) (lc_ne a0 v) h3 O h2).2.mono k
 have im:=ig.mul s2;have dm:Dg (jk v L.d L.M) (g*s):=da.dvd a0 a6;have hw:=PL (uD dm im j C);have ac:g1 (aO g.l s.l)=some (g*s).l:=hw;rw[ac];exact⟨_,qR dm im j C⟩
theorem PU{b:Nat}(hb:b<LB){d:Nat->Nat}(hd:∀w,w<4->d w=0)(n:Nat):RS d b (uG (n+1)):=λx y j m s u=>by
 have i:bx d<=10000:=by unfold bx;rw[hd 0,hd 1,hd 2,hd 3]<;>omega
 have hc:∀z:MP,Dg d z->z.l≠[]->lT z.l=true:=λz o hz=>by
  have q:z.lo 0:=λw _ k=>by have:=o w k;rw[hd w k]at this;exact this
  obtain⟨r,rfl⟩:=oH q;have e:(c r).l=cK r:=rfl;rw[e]at hz ⊢;unfold cK at hz ⊢;split
  ·rename_i h;rw[if_pos h]at hz;exact absurd rfl hz
  ·rfl
 show ∃r,BR (uG n) x.l y.l=some r;unfold BR;split
 ·exact⟨_,qR m u i hb⟩
 rename_i p;split
 ·exact⟨_,qR j s i hb⟩
 rw[if_pos (.inl (hc x j p))];exact⟨_,rfl⟩
theorem RS.mono{d d':Nat->Nat}{b e:Nat}{G:List ai->List ai->Option (List ai)}(h:RS d b G)(hd:∀w,d' w<=d w)(hb:e<=b):RS d' e G:=λx y i j k l=>h x y (i.mono hd) (j.mono hd) (k.mono hb) (l.mono hb)
def Lvs (L:Nat->uE):Nat->Prop
 | 0=>vO 0 (L 0)
 | v+1=>vO (v+1) (L (v+1))/\(L (v+1)).E<=(L v).d/\(L (v+1)).E<=(L v).M/\(L (v+1)).bE<=(L v).b/\Lvs L v
theorem Ob{L:Nat->uE}:∀(v:Nat),Lvs L v->∀n,RS (jk v (L v).d (L v).M) (L v).b (uG (n+v+2))
 | 0,h,n=>by
  have i:vO 0 (L 0):=h;have hz:∀w,w<4->jk 0 (L 0).E 0 w=0:=λw _=>by unfold jk;rw[if_neg oM];split<;>rfl
  have hb:(L 0).bE<LB:=by have:=i.fin;omega
  exact PS i (zu (n+1)) (PU hb hz n) (PU hb hz (n+1))
 | v+1,h,n=>by
  obtain⟨l,m,o,j,k⟩:=h
  have hd:∀w,jk (v+1) (L (v+1)).E 0 w<=jk v (L v).d (L v).M w:=λw=>by
   unfold jk;by_cases a1:w<v
   ·rw[if_pos oM,if_pos a1];exact m
   ·by_cases a2:w=v
    ·rw[if_pos oM,if_neg a1,if_pos a2];exact o
    ·rw[if_neg oM,if_neg a1,if_neg a2];split<;>exact nL _
  have g1:=(Ob v k n).mono hd j;have e:=(Ob v k (n+1)).mono hd j;have e1:n+(v+1)+2=(n+v+2)+1:=oM;have e2:n+1+v+2=(n+v+2)+1:=oM;rw[e2]at e;rw[e1];exact PS l (zu _) g1 e
end Q
end
section
namespace Q
open MP Go.Proofs.YtopclbeomcggiaaGreat
def cl2 (n:Nat):Nat:=n.log2+1
def kb (d:Nat):Nat:=d*(cl2 (4*d+3)+cl2 (2*d+1))
def mkL (v M d b E br P:Nat):uE where
 M:=M
 d:=d
 b:=b
 E:=E
 br:=br
 kE:=v*kb E
 k0:=v*kb d+kb M
 lM:=cl2 M
 P:=P
 R:=λU=>if v=0 then 1 else 2*U*d+1
 l2:=λU=>cl2 (2*U*(if v=0 then 1 else 2*U*d+1)^v)
 xi:=λU=>(cl2 (2*U*(if v=0 then 1 else 2*U*d+1)^v)+(if v=0 then b else b+(b+(v*kb d+kb M))))*((U-1)*((if v=0 then 1 else 2*U*d+1)+d)^v)/(U*(if v=0 then 1 else 2*U*d+1)^v-(U-1)*((if v=0 then 1 else 2*U*d+1)+d)^v)+1
 kap:=λU=>v*kb ((if v=0 then 1 else 2*U*d+1)-1+d)+kb M
def lvB (v:Nat) (L:uE):Bool :=
 decide (v<4)&&decide (L.M<=2^L.lM)&&decide (vK (jk v L.d L.M) (v+1)<=2^L.k0)&&decide (vK (jk v L.E 0) v<=2^L.kE)
 && decide (∀U,U<2*L.M->1<=U->L.mu v U<=L.mu v (U+1))
 && decide (∀U,U<2*L.M+1->2<=U->0<L.R U/\2*U*L.R U^v<=2^L.l2 U/\(L.l2 U+L.b1 v+L.xi U)*((U-1)*(L.R U+L.d)^v)<L.xi U*(U*L.R U^v)/\vK (jk v (L.R U-1+L.d) L.M) (v+1)<=2^L.kap U)
 && decide ((L.M+1)*(1*L.d)<=L.P/\(L.M+1)*(L.b1 v+1)+L.lM<LB)
 && decide (∀k,k<L.M+1->2<=k->(k+1)*(L.U k*L.d)<=L.P/\(k+1)*(L.mu v (L.U k)+1)+L.lM<LB)
 && decide ((L.M+1)*(L.P+1)^v<=10000)&&decide (L.M*(1*L.d)<=L.E/\L.M*(L.b1 v+1)+L.lM<=L.br)
 && decide (∀k,k<L.M+1->3<=k->k*(L.U k*L.d)<=L.E/\k*(L.mu v (L.U k)+1)+L.lM<=L.br)
 && decide (L.d<=L.E/\L.b<=L.br/\L.E<=L.P/\1<=L.M)&&decide (L.br+L.mu v (2*L.M)+L.cz v L.br<LB)&&decide (L.b1 v+L.cz v L.b<LB)
 && decide (bx (WQ v L.d (UM v L.d L.M))<=10000/\L.b1 v+L.b1 v+(bx (WQ v L.d (UM v L.d L.M))+1)*(L.b1 v+1)<LB)
 && decide (L.bE+L.mu v (2*L.M)<LB)&&decide (L.M+1<fuel)
theorem Oc{v:Nat}{L:uE}(h:lvB v L=true):vO v L:=by simp only[lvB,Bool.and_eq_true,decide_eq_true_eq]at h;obtain⟨⟨⟨⟨⟨⟨⟨⟨⟨⟨⟨⟨⟨⟨⟨⟨n,o⟩,p⟩,q⟩,r⟩,s⟩,u⟩,x⟩,y⟩,b⟩,d⟩,e⟩,i⟩,j⟩,k⟩,l⟩,m⟩:=h;exact⟨n,o,p,q,r,s,u,x,y,b,d,e,i,j,k,l,m⟩
def L8:Nat->uE
 | 0=>mkL 0 320 320 136492 16486400 7033665291 16589440
 | 1=>mkL 1 8 8 712 320 129772 400
 | _=>mkL 2 2 4 90 8 536 24
theorem zaL:vO 0 (L8 0):=Oc dK
theorem zaM:vO 1 (L8 1):=Oc dK
theorem zaN:vO 2 (L8 2):=Oc dK
theorem zab:Lvs L8 2:=⟨zaN,dK,dK,dK,zaM,dK,dK,dK,zaL⟩
def D8:Nat->Nat:=jk 2 4 2
theorem Je{a b:MP}(da:Dg D8 a)(e:Dg D8 b)(h:In 90 a)(i:In 90 b):∃g:MP,uG 6 a.l b.l=some g.l/\NG g a b:=by obtain⟨r,d⟩:=Ob 2 zab 2 a b da e h i;obtain⟨g,rfl,hg⟩:=zu 6 a b r d;exact⟨g,d,hg⟩
structure Dm (p:MP):Prop where
 e:∀t∈p.l,(0<=t.1.1/\t.1.1<=2)/\(0<=t.1.2.1/\t.1.2.1<=2)/\(0<=t.1.2.2.1/\t.1.2.2.1<=1)/\t.1.2.2.2=0
 i:qW 1 15 p
def jX (L:List vH):MP:=⟨mJ L,fK _⟩
theorem mi(L:List vH):Dm (jX L):=by
 have hb:=(Ej L).canon;refine⟨gY (P:=λe=>(0<=e.1/\e.1<=2)/\(0<=e.2.1/\e.2.1<=2)/\(0<=e.2.2.1/\e.2.2.1<=1)/\e.2.2.2=0) λt h=>?_,hb.d,?_⟩
 ·obtain⟨s,i,rfl⟩:=List.mem_map.1 h;show(0<=s.1%256%3/\s.1%256%3<=2)/\(0<=s.2.1%256%3/\s.2.1%256%3<=2)/\(0<=s.2.2.1%256%2/\s.2.2.1%256%2<=1)/\(0:Int)=0;omega
 ·rw[show((1:Nat):Rat)=1 from rfl,Rat.one_mul];exact hb.b
structure Dq (H:Nat) (p:MP):Prop where
 d:Dg D8 p
 i:qW 1 H p
theorem Od:D8 0=4/\D8 1=4/\D8 2=2/\D8 3=0:=dM
theorem Dm.dq{p:MP}(h:Dm p):Dq 15 p:=by
 refine⟨PK λt b=>⟨(p.v.2 t b).2,λw k=>?_⟩,h.i⟩;have j:=h.e t b;obtain⟨e0,e1,e2,d⟩:=Od;obtain rfl|rfl|rfl|rfl:w=0\/w=1\/w=2\/w=3:=oM
 ·rw[e0];show t.1.1<=_;omega
 ·rw[e1];show t.1.2.1<=_;omega
 ·rw[e2];show t.1.2.2.1<=_;omega
 ·rw[d];show t.1.2.2.2<=_;omega
theorem Dm.deg{p:MP}(h:Dm p):p.deg 0<=2/\p.deg 1<=2/\p.deg 2<=1/\p.deg 3<=0:=by
 have d:∀(w:Nat)(k:Int),0<=k->(∀t∈p.l,t.1.get w<=k)->p.deg w<=k:=λw k i h=>by
  rcases(iO (λt=>t.1.get w) p.l (-1)).2.2 with e|⟨t,b,e⟩
  ·show aH p.l w<=_;unfold aH;rw[e];omega
  ·show aH p.l w<=_;unfold aH;rw[<-e];exact h t b
 exact⟨d 0 2 oM λt b=>by have:=h.e t b;show t.1.1<=_;omega,d 1 2 oM λt b=>by have:=h.e t b;show t.1.2.1<=_;omega,
  d 2 1 oM λt b=>by have:=h.e t b;show t.1.2.2.1<=_;omega,d 3 0 oM λt b=>by have:=h.e t b;show t.1.2.2.2<=_;omega⟩
theorem Dm.mul{p q:MP}(h:Dm p)(b:Dm q):Dq 225 (p*q):=by
 obtain⟨a0,a1,a2,d⟩:=h.deg;obtain⟨b0,b1,e,j⟩:=b.deg;obtain⟨e0,e1,e2,k⟩:=Od;refine⟨λw l=>?_,h.i.mul b.i⟩;obtain rfl|rfl|rfl|rfl:w=0\/w=1\/w=2\/w=3:=oM
 ·rw[e0];exact di 0 p q a0 b0 oM
 ·rw[e1];exact di 1 p q a1 b1 oM
 ·rw[e2];exact di 2 p q a2 e oM
 ·rw[k];exact di 3 p q d j oM
theorem XC{p:MP}(h:Dg D8 p):p.lo 3:=h.lo
theorem XD:vK D8 3<=2^72:=dK
theorem bx8:bx D8=75:=dK
theorem Dq.in{H b:Nat}{p:MP}(h:Dq H p)(hb:H<=2^b):In b p:=⟨1,H,oM,Nat.one_le_two_pow,hb,h.i⟩
theorem WS{x:Rat}(h:Dv 1 x)(b:x≠0):1<=bO x:=by obtain⟨z,rfl⟩:=gJ h;exact MP.rabs_int λe=>b (by rw[e];rfl)
theorem AB{H:Nat}{f g q:MP}(h:Dq H f)(f0:f≠0)(e:f=g*q)(hg:hd g=1):∃z:Nat,0<z/\z<=H/\qW z (2^72*H) g/\qW 1 (z*(2^72*H)) q:=by
 have C:g≠0:=λh=>f0 (by rw[e,h];grind);have M:q≠0:=λh=>f0 (by rw[e,h];grind);obtain⟨r,j,hp⟩:=Pj C;have K:c r*c r⁻¹=1:=by rw[lC,Rat.mul_inv_cancel _ j];rfl
 have o:r⁻¹≠0:=λh=>by have:=Rat.mul_inv_cancel _ j;rw[h]at this;grind
 have e2:f=(c r*g)*(c r⁻¹*q):=by rw[e];grind
 have u:=Ey h.i.d hp e2;have l:c r⁻¹*q≠0:=mul_ne (vJ o) M;have k:c r*g≠0:=mul_ne (vJ j) C;have b:f.am<=(H:Rat):=by have:=h.i.a;rwa[show((1:Nat):Rat)=1 from rfl,Rat.one_mul]at this
 have E:∀x y:MP,f=x*y->x.dv 1->y.dv 1->qW 1 (2^72*H) x:=λx y e F L=>by refine⟨F,?_⟩;have:=MP.fac D8 3 oM _ _ _ e f0 F L (XC h.d) λw O=>h.d w oM;rw[show((1:Nat):Rat)=1 from rfl,Rat.one_mul,Rat.natCast_mul];exact Rat.le_trans this (pM (zl XD) b (bT _) (bT _))
 have I:=E _ _ e2 hp.1 u;obtain⟨z,N,B,R,G⟩:=I.nrm oM k;rw[LK j,PO hg]at G;rw[show((1:Nat):Rat)=1 from rfl,Rat.one_mul]at B;have m:hd f=hd (c r*g)*hd (c r⁻¹*q):=by rw[e2,EO k l]
 have mr:1<=bO (hd (c r⁻¹*q)):=by obtain⟨t,p,n⟩:=xQ l;exact WS (by rw[n];exact u t p) (Bz l)
 have s:z<=H:=by refine Rat.natCast_le_natCast.1 ?_;rw[B];have D:=Rat.mul_le_mul_of_nonneg_left mr (fo (hd (c r*g)));rw[<-jB,<-m,Rat.mul_one]at D;exact Rat.le_trans D (Rat.le_trans (PH f0) b)
 refine⟨z,N,s,G,?_⟩;have J:=E _ _ (e2.trans (gX _ _)) u hp.1;have oV:hd (c r*g)=r:=by rw[uw j,hg,Rat.one_mul]
 have eq:q=c r*(c r⁻¹*q):=gR
 have ir:Dv 1 r:=by obtain⟨t,p,n⟩:=xQ k;rw[<-oV,n];exact hp.1 t p
 have i1:qW 1 z (c r):=⟨Rc ir,by rw[Lb,show((1:Nat):Rat)=1 from rfl,Rat.one_mul,B,oV];exact Rat.le_refl⟩;have:=i1.mul J;rw[<-eq,Nat.one_mul]at this;exact this
def mM (D:Nat):Sz:=⟨D,2^200,4,75⟩
theorem AC{D H:Nat}{p:MP}(h:qW D H p)(m:0<D)(hd:Dg D8 p)(n:H<=2^200):Bd (mM D) p.l:=by
 refine⟨by have:=hd.len;rw[bx8]at this;exact this,λt i=>?_,h.d,?_⟩
 ·have b:=(hd.inB t i).2;have o:=Ex.nat_iff.1 (hd.inB t i).1;obtain⟨e0,e1,e2,j⟩:=Od;have a0:=b 0 oM;have a1:=b 1 oM;have a2:=b 2 oM;have e:=b 3 oM;rw[e0]at a0;rw[e1]at a1;rw[e2]at a2;rw[j]at e;simp only[Ex.get]at a0 a1 a2 e;simp only[mM];omega
 ·have b:p.am<=(D:Rat)*p.am:=by
   have k:(1:Rat)<=(D:Rat):=qP m;have:=Rat.mul_le_mul_of_nonneg_right k p.am_nonneg;rwa[Rat.one_mul]at this
  exact Rat.le_trans b (Rat.le_trans h.a (zl n))
theorem xS{D:Nat}(h:0<D)(b:D<65536):(mM D).ok:=⟨h,b,by show 2^200<2^1000;exact Yz,by show 4<1000000;omega,by show 75<1000000;omega⟩
theorem zw{D b:Nat}(h:0<D)(d:0<b)(k:D*b < 65536):((mM D).mul (mM b)).ok:=⟨Nat.mul_pos h d,k,by show 2^200*2^200<2^1000;exact Ue,by show 4+4<1000000;omega,by show 75*75<1000000;omega⟩
theorem Dq.pk{H:Nat}{p:MP}(h:Dq H p)(b:H<=2^200):Pk (mM 1) p.l:=⟨p.v,AC h.i oM h.d b,xS oM oM⟩
theorem PV{H:Nat}{f g:MP}(h:Dq H f)(j:H<=225)(f0:f≠0)(hd:g∣f)(hg:Q.hd g=1):∃z,0<z/\z<=H/\Pk (mM z) g.l:=by obtain⟨q,e⟩:=hd;obtain⟨z,b,k,m,-⟩:=AB h f0 e hg;have i:=Nat.mul_le_mul_left (2^72) j;exact⟨z,b,k,g.v,AC m b (h.d.dvd f0 ⟨q,e⟩) (Nat.le_trans i dK),xS b oM⟩
theorem uy:Pk (mM 1) (0:MP).l:=⟨(0:MP).v,Bd.nil _,xS oM oM⟩
theorem XE{H:Nat}{a b g:MP}(ha:Dq H a)(hb:Dq H b)(j:H<=225)(hg:NG g a b):∃z,0<z/\z<=225/\Pk (mM z) g.l:=by
 by_cases d:g=0
 ·rw[d];exact⟨1,oM,oM,uy⟩
 ·by_cases a0:a=0
  ·by_cases b0:b=0
   ·exact absurd (zero_dvd (hg.i.u 0 (by rw[a0];exact dvd_refl 0) (by rw[b0];exact dvd_refl 0))) d
   ·obtain⟨z,e,k,h⟩:=PV hb j b0 hg.i.r (hg.n d);exact⟨z,e,oM,h⟩
  ·obtain⟨z,e,k,h⟩:=PV ha j a0 hg.i.l (hg.n d);exact⟨z,e,oM,h⟩
theorem VA{p:MP}(hd:Dg D8 p)(b:In 90 p):Wp p.l:=kS (uD hd b (by rw[bx8];omega) (by rw[Bi];omega))
theorem XF{p:MP}(hd:Dg D8 p)(b:In 90 p):kG p.l=some (nrm p).l:=qR hd b (by rw[bx8];omega) (by rw[Bi];omega)
theorem zaO:2^72*225<=2^90:=dK
theorem Dq.in90{H:Nat}{p:MP}(h:Dq H p)(b:H<=225):In 90 p:=h.in (Nat.le_trans b dK)
theorem PW{H:Nat}{f g:MP}(h:Dq H f)(b:H<=225)(f0:f≠0)(hd:g∣f)(hg:Q.hd g=1):Dg D8 g/\In 90 g:=by obtain⟨q,e⟩:=hd;obtain⟨z,j,k,l,-⟩:=AB h f0 e hg;have i:=Nat.mul_le_mul_left (2^72) b;exact⟨h.d.dvd f0 ⟨q,e⟩,z,_,j,Nat.le_trans (Nat.le_trans k b) dK,Nat.le_trans i zaO,l⟩
theorem zx:Dg D8 (0:MP)/\In 90 (0:MP):=⟨λw _=>by rw[deg_zero];omega,In.zero _⟩
theorem XG{H:Nat}{a b g:MP}(ha:Dq H a)(hb:Dq H b)(e:H<=225)(hg:NG g a b):Dg D8 g/\In 90 g:=by
 by_cases d:g=0
 ·rw[d];exact zx
 ·by_cases a0:a=0
  ·by_cases b0:b=0
   ·exact absurd (zero_dvd (hg.i.u 0 (by rw[a0];exact dvd_refl 0) (by rw[b0];exact dvd_refl 0))) d
   ·exact PW hb e b0 hg.i.r (hg.n d)
  ·exact PW ha e a0 hg.i.l (hg.n d)
theorem NG.eq2{g h a b:MP}(hg:NG g a b)(j:NG h a b):g=h:=by
 have k:=j.i.u g hg.i.l hg.i.r;have m:=hg.i.u h j.i.l j.i.r;by_cases d:g=0
 ·rw[d]at k ⊢;exact(zero_dvd k).symm
 ·have o:h≠0:=λe=>d (by rw[e]at m;exact zero_dvd m);exact EM d k m (hg.n d) (j.n o)
theorem YW(a:MP):NG (nrm a) a a:=NG.self
structure An (a b g:MP):Prop where
 e:uG 6 a.l b.l=some g.l
 wa:Wp a.l
 wb:Wp b.l
theorem zy{a b g:MP}(da:Dg D8 a)(d:Dg D8 b)(i:In 90 a)(j:In 90 b)(hg:NG g a b):An a b g:=by obtain⟨h,e,k⟩:=Je da d i j;rw[k.eq2 hg]at e;exact⟨e,VA da i,VA d j⟩
theorem WT{a b c:MP}(ha:Dm a)(hb:Dm b)(hc:Dm c):∃g h k n m:MP,∃G K L H M:Nat,An a b g/\An b c h/\An (a*c) (b*c) (n*g)/\An b a g/\An g c k/\An a h k/\An a a m /\
  kG c.l=some n.l/\kG a.l=some m.l/\Wp c.l/\Wp a.l/\Pk (mM G) g.l/\Pk (mM K) h.l/\Pk (mM L) k.l/\Pk (mM H) n.l/\Pk (mM M) m.l/\((mM H).mul (mM G)).ok:=by
 have e:=ha.dq;have j:=hb.dq;have o:=hc.dq;have s:=e.in90 oM;have F:=j.in90 oM;have D:=o.in90 oM;have p:=ha.mul hc;have q:=hb.mul hc;obtain⟨g,eg,hg⟩:=Je e.d j.d s F;obtain⟨h,eh,E⟩:=Je j.d o.d F D;obtain⟨dg,S⟩:=XG e j oM hg;obtain⟨X,ih⟩:=XG j o oM E;obtain⟨k,ek,B⟩:=Je dg o.d S D;have C:=NG.assoc hg E B;obtain⟨x,ex,I⟩:=Je p.d q.d (p.in90 oM) (q.in90 oM);have J:=NG.fac hg I;rw[J]at I;have nd:∀{f:MP},Dq 15 f->f≠0->∀{y:MP},y∣f->(y≠0->hd y=1)->∃z,0<z/\z<=15/\Pk (mM z) y.l:=λhf f0 y R hn=>PV hf oM f0 R (hn (dvd_ne f0 R));have a1:∀{f y:MP},f≠0->y∣f->y≠0:=λN O=>dvd_ne N O
 have gz:∃z,0<z/\z<=15/\Pk (mM z) g.l:=by
  by_cases a0:a=0
  ·by_cases b0:b=0
   ·have:g=0:=zero_dvd (hg.i.u 0 (by rw[a0];exact dvd_refl 0) (by rw[b0];exact dvd_refl 0));rw[this];exact⟨1,oM,oM,uy⟩
   ·exact nd j b0 hg.i.r hg.n
  ·exact nd e a0 hg.i.l hg.n
 obtain⟨G,g1,Y,Z⟩:=gz;obtain⟨K,N,O,h3⟩:=XE j o oM E
 have kz:∃z,0<z/\z<=15/\Pk (mM z) k.l:=by
  by_cases a0:a=0
  ·by_cases b0:b=0
   ·by_cases c0:c=0
    ·have e1:h=0:=zero_dvd (E.i.u 0 (by rw[b0];exact dvd_refl 0) (by rw[c0];exact dvd_refl 0));have:k=0:=zero_dvd (C.i.u 0 (by rw[a0];exact dvd_refl 0) (by rw[e1];exact dvd_refl 0));rw[this];exact⟨1,oM,oM,uy⟩
    ·exact nd o c0 B.i.r B.n
   ·exact nd j b0 (dvd_trans B.i.l hg.i.r) B.n
  ·exact nd e a0 C.i.l B.n
 obtain⟨L,k1,k2,k3⟩:=kz
 have W:∀{f:MP},Dq 15 f->∃z,0<z/\z<=15/\Pk (mM z) (nrm f).l:=λ{f} hf=>by
  by_cases f0:f=0
  ·rw[f0,nA];exact⟨1,oM,oM,uy⟩
  ·exact nd hf f0 (iD f0).1 λ_=>xP f0
 obtain⟨H,n1,n2,n3⟩:=W o;obtain⟨M,m1,m2,m3⟩:=W e;refine⟨g,h,k,nrm c,nrm a,G,K,L,H,M,zy e.d j.d s F hg,zy j.d o.d F D E,zy p.d q.d (p.in90 oM) (q.in90 oM) I,zy j.d e.d F s hg.comm,zy dg o.d S D B,zy e.d X s ih C,zy e.d e.d s s (YW a),XF o.d D,XF e.d s,VA o.d D,VA e.d s,Z,h3,k3,n3,m3,zw n1 g1 ?_⟩;have:=Nat.mul_le_mul n2 Y;omega
end Q
end
section
namespace Go.Proofs.YtopclbeomcggiaaGreat
open Go.RowKit Q
theorem qg{a b g:MP}(h:An a b g)(W:World)(u v:Value)(d:aj W u a.l)(i:aj W v b.l):Calls Tryz.prog 16 #[u,v] W (aN W g.l) :=
 (jF 6 _ _ _ h.wa h.wb h.e).1 u v W d i
end Go.Proofs.YtopclbeomcggiaaGreat
end
section
namespace Q
open Go Go.Proofs.YtopclbeomcggiaaGreat
inductive Jf (sa sq:Sz) (b:List ai) (g:ai):Nat->List ai->List ai->Option (List ai)->Prop
 | done {out:List ai}:Jf sa sq b g 0 [] out (some out)
 | fail {m:ai} {a out:List ai}:(m.1.sub g.1).nat=false->Pk sa (m::a)->Jf sa sq b g 0 (m::a) out none
 | step {n:Nat} {m:ai} {a out:List ai} {r:Option (List ai)}:(m.1.sub g.1).nat=true->Pk sa (m::a)->Bd sq [ik m g]->out.length<=100000000 ->
   Jf sa sq b g n (dL (m::a) (aO b [ik m g])) (out++[ik m g]) r->Jf sa sq b g (n+1) (m::a) out r
structure UN (sa sb sq:Sz) (b:List ai) (g:ai):Prop where
 pb:Pk sb b
 hd:∃r,b=g::r
 oq:sq.ok
 om:(sb.mul sq).ok
 os:((sb.mul sq).mul ⟨1,1,0,1⟩).ok
 gs:sa.D*g.2.num.natAbs<4294967296
inductive BU (b:List ai) (g:ai):Nat->List ai->List ai->Option (List ai)->Prop
 | done {out:List ai}:BU b g 0 [] out (some out)
 | fail {m:ai} {a out:List ai}:(m.1.sub g.1).nat=false->Wr (m::a)->InR (m.1.sub g.1)->BU b g 0 (m::a) out none
 | step {n:Nat} {m:ai} {a out:List ai} {r:Option (List ai)}:(m.1.sub g.1).nat=true->Wr (m::a)->InR (m.1.sub g.1)->Wr [ik m g]->Wr (aO b [ik m g])->(∀t∈b,InR (t.1.add (ik m g).1))->out.length<=100000000 ->
   BU b g n (dL (m::a) (aO b [ik m g])) (out++[ik m g]) r->BU b g (n+1) (m::a) out r
theorem BU.inv{b:List ai}{g m:ai}{n:Nat}{a out:List ai}{r:Option (List ai)}(h:BU b g n (m::a) out r) :
  Wr (m::a)/\InR (m.1.sub g.1)/\((m.1.sub g.1).nat=false->r=none)/\((m.1.sub g.1).nat=true->∃n',n=n'+1/\Wr [ik m g]/\Wr (aO b [ik m g])/\(∀t∈b,InR (t.1.add (ik m g).1))/\out.length<=100000000/\BU b g n' (dL (m::a) (aO b [ik m g])) (out++[ik m g]) r):=by
 cases h with
 | fail d e i=>exact⟨e,i,λ_=>rfl,(λh=>by rw[d]at h;cases h)⟩
 | step d e i j k l o p=>exact⟨e,i,(λh=>by rw[d]at h;cases h),λ_=>⟨_,rfl,j,k,l,o,p⟩⟩
theorem BU.inv0{b:List ai}{g:ai}{n:Nat}{out:List ai}{r:Option (List ai)}(h:BU b g n [] out r):r=some out:=by cases h;rfl
theorem UN.ne{sa sb sq:Sz}{b:List ai}{g:ai}(h:UN sa sb sq b g):g.2≠0/\g.1.nat=true:=by obtain⟨r,d⟩:=h.hd;exact h.pb.v.2 g (by rw[d];simp)
theorem Ro{b:List ai}{q:ai}(hb:aY b)(hq:aY [q]):kR b q=aO b [q]:=by rw[uo (hq.2 q sM).1,aO];refine(Jv ?_).symm;have:=hb.times (hq.2 q sM).2;rwa[uo (hq.2 q sM).1]at this
theorem UO{sa sb:Sz}{m g:ai}{a b:List ai}(ha:Pk sa (m::a))(hb:Pk sb (g::b)):InR (m.1.sub g.1):=by have d:=ha.b.e m sM;have h:=hb.b.e g sM;have e1:=ha.k.2.2.2.1;have e2:=hb.k.2.2.2.1;refine InR.of (K:=sa.E+sb.E) oM ?_;simp only[Ex.sub];omega
theorem Jf.w{sa sb sq:Sz}{b:List ai}{g:ai}{n:Nat}{a out:List ai}{r:Option (List ai)}(d:UN sa sb sq b g)(h:Jf sa sq b g n a out r):BU b g n a out r:=by
 induction h with
 | done=>exact .done
 | fail i e =>
  obtain⟨r,k⟩:=d.hd;exact .fail i e.wr (UO e (k▸d.pb))
 | step i e l m _ o =>
  obtain⟨r,k⟩:=d.hd;have j:Pk sq [_]:=⟨La e.v d.ne.1 i,l,d.oq⟩;exact .step i e.wr (UO e (k▸d.pb)) j.wr (d.pb.mul j d.om).wr (d.pb.times j d.om sM).2 m o
end Q
namespace Go.Proofs.YtopclbeomcggiaaGreat
open Go.RowKit Q Go.WideMaps Go.Maps
theorem UQ{vp vq:Value}{p q:List ai}{w:World}(hP:Wr p)(hQ:Wr q)(hp:aj w vp p)(hq:aj w vq q):Calls Tryz.prog 35 #[vp,vq] w (xy w (dL p q)):=by
 have b:=zH (λW u (hb:Below w.heap.size w W) (hu:bX W u (((-1:Int)):Rat))=>xE vq u q (-1) W (hq.on hb) hu hQ.rs TM hQ.ir hQ.len);have ha:=zH (λW u (hb:Below w.heap.size w W) (hu:aj W u (bY q (-1)))=>si hP.v (hQ.v.scale (-1))▸KL vp u p _ W (hp.on hb) hu hP.rs hQ.neg.rs hP.len hQ.neg.len);replace hp:=zH hp;replace hq:=zH hq
 go_enter Tryz.func35,Tryz.ntmps35
 go_wp2_with (first
  | (go_at_call 24;refine(iW (-1) _ oM oM).mono ?_;rintro en w3 ⟨v3,rfl,hv3,hb3⟩)
  | (go_at_call 42;refine(b.out _ _ hb3 hv3).mono ?_;rintro en w4 ⟨v4,rfl,hv4,hb4⟩)
  | (go_at_call 39;refine(ha.out _ _ (hb3.trans (hb4.mono hb3.size)) hv4).mono ?_;rintro en w5 ⟨v5,rfl,hv5,hb5⟩))
 have hb34:=hb3.trans (hb4.mono hb3.size);go_ret;exact⟨_,rfl,hv5.base_mono hb34.size,hb34.trans (hb5.mono hb34.size)⟩
def LY (m g:Ex):Nat->Ex
 | 0=>e0
 | k+1=>(LY m g k).put k (m.get k-g.get k)
theorem Rp(m g:Ex):LY m g 4=m.sub g:=rfl
theorem WU{w:World}{base:Nat}(h:base<=w.heap.size):aj (w.alloc (.cells #[] 43)) (.slice (some ⟨w.heap.size,0,none⟩) 0 0) []:=(Gm aT h).isSl
theorem zac(vp vq:Value)(p b:List ai)(g:ai)(n:Nat)(r:Option (List ai))(w:World)(hp:aj w vp p)(hq:aj w vq (g::b))(hB:Wr (g::b))(hd:BU (g::b) g n p [] r) :
  Calls Tryz.prog 25 #[vp,vq] w (yK w r):=by
 obtain⟨ap,cp,rfl,b8⟩:=hp.shape;obtain⟨aq,cq,rfl,b9⟩:=hq.shape;obtain⟨M,oq,rg,rfl,a9,a3⟩:=fO hq (i:=0) (s:=g) rfl;rw[Nat.zero_mul,Nat.add_zero]at a3;have b0:=a9.len;have a5:g.2≠0/\g.1.nat=true:=hB.v.2 g sM;have a4:=hB.rs g sM;have hn1:((b.length+1:Nat):Int)≠0:=oM;have hn2:(((b.length+1:Nat):Int)==0)=false:=by simp;omega
 replace hd:=zH hd;replace hB:=zH hB;replace a5:=zH a5;replace a4:=zH a4;simp only[List.length_cons]at *
 go_enter Tryz.func25,Tryz.ntmps25
 go_wp2;have hown0:=gF aT w;have hb0:Below w.heap.size w (w.alloc (.cells #[] aR)):=(Below.refl _ _).alloc (nL _) _;change cB w.heap.size (w.alloc (.cells #[] 43)) _ _ at hown0;change Below w.heap.size w (w.alloc (.cells #[] 43))at hb0
 have hap0:p≠[]->∀I n c,(.slice ap p.length cp:Value)=.slice (some I) n c->some I.block≠(.slice (some ⟨w.heap.size,0,none⟩) 0 0:Value).ownBlock:=by
  intro b3 I n c h hh
  cases p with
  | nil=>exact b3 rfl
  | cons t p' =>
   obtain⟨b',o',r',e',-,au⟩:=fO hp (i:=0) (s:=t) rfl;simp only[Value.slice.injEq]at h;have h2:=au.lt;rw[e']at h;have h1:=h.1;simp only[sJ]at h1;subst h1;simp[Value.ownBlock]at hh;omega
 replace hp:=zH hp;replace hq:=zH hq;replace hap0:=zH hap0
 go_loopg [6,7] n (λn vo va wr=>∃a out,Hid (aj wr va a)/\Hid (cB w.heap.size wr vo out)/\Hid (BU (g::b) g n a out r)/\Below w.heap.size w wr/\Hid (a≠[]->∀I n c,va=.slice (some I) n c->some I.block≠vo.ownBlock))
 case atStart=>exact⟨p,[],zH (hp.out.on hb0),zH hown0,hd,hb0,hap0⟩
 case round =>
  clear hd hown0 hb0 hap0;obtain⟨a,out,ha,d,hd,l,L⟩:=hrel
  cases a with
  | nil =>
   have hr:r=some out:=hd.out.inv0;obtain⟨aa,ca,rfl,az⟩:=ha.out.shape;replace hr:=zH hr;simp only[List.length_nil];go_wp2;go_ret2;exact⟨_,by rw[hr.out];rfl,by rw[hr.out];exact d.out.isSl,l⟩
  | cons m a =>
   obtain⟨ab,av,o,bN⟩:=hd.out.inv;obtain⟨aa,ca,rfl,az⟩:=ha.out.shape;obtain⟨B,G,ra,rfl,D,C⟩:=fO ha.out (i:=0) (s:=m) rfl;rw[Nat.zero_mul,Nat.add_zero]at C;have aE:=D.len;have hne1:some B≠u6.ownBlock:=λh=>L.out sM _ _ _ rfl h;have S:=λv hv=>Ex.get_bounds av (v:=v) hv;have Y:=λv hv=>Zq m.1 g.1 v hv;have hg0:((a.length+1:Nat):Int) > 0:=oM;replace S:=zH S;replace Y:=zH Y;replace o:=zH o;replace bN:=zH bN;simp only[List.length_cons]
   go_upto_region 6 with (fail)
   refine jC λW3 hb3 J hs3=>?_;have hbr3:=l.trans (hb3.mono l.size);have ha3:=ha.out.on hb3;have hown3:=d.out.on hb3;have hra3:=D.on hb3;have an:w.heap.size<=wr.heap.size:=l.size;have a7:u6.ownBlock≠some wr.heap.size:=λh=>by have:=(d.out.base_le _ h).2;omega
   have ac:B≠wr.heap.size:=λh=>by have:=C.lt;omega
   have q:∀k,u6.ownBlock=some k->w.heap.size<=k:=λk hk=>(d.out.base_le k hk).1;clear hb3 C ha d D l L hd hs3;generalize wr.heap.size=mb at *;have al:Hid (Blk W3 mb aR (bI (LY m.1 g.1 0)++[.bool false,.slice none 0 0,.bool false,.slice none 0 0])):=zH J;clear J;go_wp2
   go_loopw [9] (λi wr=>∃k:Nat,k<=4/\i=.int .i64 k/\Hid (Blk wr mb aR (bI (LY m.1 g.1 k)++[.bool false,.slice none 0 0,.bool false,.slice none 0 0]))/\Hid (aj wr (.slice (some ⟨B,G,none⟩) (a.length+1) ca) (m::a))/\Hid (cB w.heap.size wr u6 out)/\Below w.heap.size w wr) (λi _=>4-(intOf i).toNat)
   case atStart=>exact⟨0,oM,rfl,al,zH ha3,zH hown3,hbr3⟩
   case round =>
    clear al ha3 hown3 hra3 hbr3;obtain⟨k,hk,rfl,hB1,ha,d,l⟩:=hrel;obtain⟨b6,bc,ra,e9,D,C⟩:=fO (ap:=some ⟨B,G,none⟩) (cp:=ca) (p:=m::a) ha.out (i:=0) (s:=m) rfl;simp only[sJ,Addr.mk.injEq,and_true]at e9;obtain⟨rfl,rfl⟩:=e9;rw[Nat.zero_mul,Nat.add_zero]at C;have aE:=D.len;have J:=hB1.out;by_cases hk4:k<4
    ·have b5:(k:Int)<4:=oM;have aw:=oW (LY m.1 g.1 k) k hk4 [.bool false,.slice none 0 0,.bool false,.slice none 0 0];have ag:=wD (LY m.1 g.1 k) k hk4 (m.1.get k-g.1.get k) [.bool false,.slice none 0 0,.bool false,.slice none 0 0];have hw:IntKind.i64.wrap (m.1.get k-g.1.get k)=m.1.get k-g.1.get k:=kD (by rw[<-Y.out k hk4];exact S.out k hk4);have Z:=oW g.1 k hk4 rg;have a0:=oW m.1 k hk4 ra
     have f1:∀W',Below wr.heap.size wr W'->W'.cell? ⟨B,G+k,none⟩=some (.int .i64 (m.1.get k)):=λW' h=>by rw[(C.on h).cell k (by simp[bI];omega)];exact a0
     have f2:∀W',Below wr.heap.size wr W'->W'.cell? ⟨M,oq+k,none⟩=some (.int .i64 (g.1.get k)):=λW' h=>by rw[(a3.on (l.trans (h.mono l.size))).cell k (by simp[bI];omega)];exact Z
     have F:LY m.1 g.1 (k+1)=Ex.put (LY m.1 g.1 k) k (m.1.get k-g.1.get k):=rfl;generalize m.1.get k=x at *;generalize g.1.get k=y at *;replace F:=zH F;clear Z a0
     go_upto_region 9 with (fail)
     refine aD mixed (none) (0) (eQ.none) [.eq (.int .i64 k),.eq (.slice (some ⟨B,G,none⟩) (a.length+1) ca),.eq (.int .i64 k),.eq (.pointer (some ⟨B,G+0*8,none⟩)),.eq (.pointer (some ⟨B,G+0*8,none⟩)),.eq (.pointer (some ⟨B,G+k,none⟩)),.eq (.int .i64 x),.eq (.slice (some ⟨M,oq,none⟩) (b.length+1) cq),.eq (.int .i64 k),.eq (.pointer (some ⟨M,oq+0*8,none⟩)),.eq (.pointer (some ⟨M,oq+0*8,none⟩)),.eq (.pointer (some ⟨M,oq+k,none⟩)),.eq (.int .i64 y),.eq (.int .i64 (x-y)),.eq (.pointer (some ⟨mb,0,none⟩)),.eq (.pointer (some ⟨mb,k,none⟩))] [24,25,26,27,28,29,30,31,32,33,34,35,36,37,38,39] rfl rfl rfl rfl ⟨λ_ _ a _ _ _=>xM rfl (a 9 rfl),λ_ _ a _ _ _=>xM rfl (a 7 rfl),λ_ _ a _ _ _=>xM rfl (a 9 rfl),λ_ _ _ _ _ e=>pI rfl Tryz.underlying27 B G 0 oM (e.1 rfl) rfl,λ_ _ _ _ _ e=>af rfl (uf rfl (e.1 rfl)),λA _ _ _ _ he=>have h28:=eT 28 (he.1 rfl);have h26:=eT 26 (he.2.1 rfl);pZ rfl,?_,λ_ _ a _ _ _=>xM rfl (a 1 rfl),λ_ _ a _ _ _=>xM rfl (a 9 rfl),λ_ _ _ _ _ e=>pI rfl Tryz.underlying27 M oq 0 oM (e.1 rfl) rfl,λ_ _ _ _ _ e=>af rfl (uf rfl (e.1 rfl)),λA _ _ _ _ he=>have h34:=eT 34 (he.1 rfl);have h32:=eT 32 (he.2.1 rfl);pZ rfl,?_,λA _ _ _ _ he=>have h30:=eT 30 (he.1 rfl);have h36:=eT 36 (he.2.1 rfl);pZ rfl,λ_ _ a _ _ _=>af rfl (uf rfl (a 8 rfl)),λA _ _ _ _ he=>have h38:=eT 38 (he.1 rfl);have h24:=eT 24 (he.2.1 rfl);pZ rfl,trivial⟩ ?_
     ·intro A w1 hA hL hS he;have h29:=eT 29 (he.1 rfl);refine af rfl ?_;have c0:=f1 w1 hL.below;exact aC rfl rfl gZ
     ·intro A w1 hA hL hS he;have h35:=eT 35 (he.1 rfl);refine af rfl ?_;have c0:=f2 w1 hL.below;exact aC rfl rfl gZ
     ·intro W2 hL2;have hb2:=hL2.below;simp only[aQ,ae.eq,lZ];go_frame;have B2:=J.on hb2;have z:=B2.at1 k _ aw;have hf:=B2.frozen k;have hown2:=d.out.on hb2;have ha2:=ha.out.on hb2;have hbr2:=l.trans (hb2.mono l.size);have hl3:=bf (j:=k) B2 (.int .i64 (x - y));have B3:=B2.set k (.int .i64 (x - y));rw[ag]at B3;clear f1 f2 hL2;go_wp2;go_roundw
      case rel =>
       refine⟨k+1,oM,nM,zH (by rw[F.out];exact B3),zH (ha2.lrB hl3 (bu dM) (λI n c h=>by simp only[Value.slice.injEq,sJ]at h;rw[<-h.1];simpa using ac)),zH (hown2.lr hl3 (bu dM) (.inr a7)),hbr2.trans (hl3.belowAt hbr2.size (λk hk=>by cases hk;exact an))⟩
      case measure=>simp[intOf];omega
    ·obtain rfl:k=4:=oM;rw[Rp]at J;clear S Y hB1;obtain⟨E,hE⟩:∃E,E=m.1.sub g.1:=⟨_,rfl⟩;have a8:ik m g=(E,m.2/g.2):=by rw[hE];rfl
     rw[<-hE]at J o bN;replace a8:=zH a8;replace hE:=zH hE
     go_upto_region 10 with (fail)
     refine aI trivial (none) (0) (eQ.none) [.eq (.pointer (some ⟨mb,0,none⟩)),.eq (.agg (bI E).toArray),.ret (.bool E.nat),.eq (.bool (!E.nat))] [40,41,42,43] rfl rfl rfl rfl ⟨λ_ _ a _ _ _=>af rfl (uf rfl (a 8 rfl)),λ_ _ _ hL _ e=>pL rfl (D6 (J.on hL.below)) Tryz.underlying36 (show(bI E).length=4 from rfl) (e.1 rfl),λA _ _ _ hS he=>have hb:=hS rfl;have h41:=eT 41 (he.1 rfl);have hf0:=eF A 65;cP (f:=65) (args:=#[.agg (bI E).toArray]) (jP E _),λA _ _ _ _ he=>have h42:=eT 42 (he.1 rfl);pZ rfl,trivial⟩ ?_
     ·intro W2 hL2;have hb2:=hL2.below;simp only[aQ,ae.eq,ae.ret,lZ];go_frame;have B2:=J.on hb2;have hown2:=d.out.on hb2;have ha2:=ha.out.on hb2;have hra2:=D.on hb2;have hCa2:=C.on hb2;have hbr2:=l.trans (hb2.mono l.size);clear hL2 J d ha D l hb2 C;cases hEn:E.nat
      ·have hr:=o.out hEn;replace hr:=zH hr;clear bN hEn;go_wp2;go_ret2;exact⟨_,by rw[hr.out];rfl,by rw[hr.out];exact WU (nL _),hbr2.trans (((Below.refl _ _).alloc (nL _) _).mono hbr2.size)⟩
      ·obtain⟨n',a6,QV,PT,a2,bb,N⟩:=bN.out hEn;rw[a8.out]at N QV PT a2;have b2:=ab.rs m sM;have b4:=zH (λW u (hu:aj W u (g::b)) cs (hc:qF W cs (E,m.2/g.2))=>Ro hB.out.v QV.v▸xC u (g::b) cs (E,m.2/g.2) W hu hc hB.out.rs (QV.rs _ sM) a2 hB.out.len);replace N:=zH N;replace a6:=zH a6;clear o bN hEn;have hdiv:=λW (hb:Below W2.heap.size W2 W)=>UH _ _ _ _ W (hra2.on hb).rat (a9.on (hbr2.trans (hb.mono hbr2.size))).rat b2 a4.out a5.out.1;obtain⟨N1,A1,K1,C1,N2,A2,K2,C2,rfl,-,-⟩:=id hra2;obtain⟨N3,A3,K3,C3,N4,A4,K4,C4,rfl,-,-⟩:=id a9;have u1:=B2.at1 4 _ rfl;have u2:=B2.at1 5 _ rfl;have u3:=B2.at1 6 _ rfl;have u4:=B2.at1 7 _ rfl;have hCg2:=a3.on hbr2;have x1:W2.cell? ⟨M,oq+4,none⟩=some (.bool N3):=by have:=hCg2.cell 4 (by simp[bI]);simpa[bI]using this
       have x2:W2.cell? ⟨M,oq+4+1,none⟩=some (.slice A3 K3 C3):=by have:=hCg2.cell 5 (by simp[bI]);simpa[bI,Nat.add_assoc]using this
       have x3:W2.cell? ⟨M,oq+4+2,none⟩=some (.bool N4):=by have:=hCg2.cell 6 (by simp[bI]);simpa[bI,Nat.add_assoc]using this
       have x4:W2.cell? ⟨M,oq+4+3,none⟩=some (.slice A4 K4 C4):=by have:=hCg2.cell 7 (by simp[bI]);simpa[bI,Nat.add_assoc]using this
       have y1:W2.cell? ⟨B,G+4,none⟩=some (.bool N1):=by have:=hCa2.cell 4 (by simp[bI]);simpa[bI]using this
       have y2:W2.cell? ⟨B,G+4+1,none⟩=some (.slice A1 K1 C1):=by have:=hCa2.cell 5 (by simp[bI]);simpa[bI,Nat.add_assoc]using this
       have y3:W2.cell? ⟨B,G+4+2,none⟩=some (.bool N2):=by have:=hCa2.cell 6 (by simp[bI]);simpa[bI,Nat.add_assoc]using this
       have y4:W2.cell? ⟨B,G+4+3,none⟩=some (.slice A2 K2 C2):=by have:=hCa2.cell 7 (by simp[bI]);simpa[bI,Nat.add_assoc]using this
       have f1:=B2.frozen 4;have f2:=B2.frozen 5;have f3:=B2.frozen 6;have f4:=B2.frozen 7;clear hCg2 hCa2
       go_upto_region 12 with (fail)
       go_cut [45,46,47,48,49,50,51,52,53,54,55,56,57] (λ_ _ _ _ _ _ _ _ _ _ _ _ _ wc=>∃r':List Value,Hid (Blk wc mb aR (bI E++r'))/\Hid (iC wc r' (m.2/g.2))/\Hid (cB w.heap.size wc u6 out)/\Hid (aj wc (.slice (some ⟨B,G,none⟩) (a.length+1) ca) (m::a))/\Below w.heap.size w wc)
       case first =>
        replace hown2:=zH hown2;replace ha2:=zH ha2
        go_region_with (go_at_call 71;refine(hdiv _ (ql (Below.refl _ _) _)).mono ?_;rintro en w5 ⟨v5,rfl,hv5,hb5⟩;obtain⟨N5,A5,K5,C5,N6,A6,K6,C6,rfl⟩:=gD hv5;have B5:=(B2.on (ql (Below.refl _ _) _)).on hb5;have z1:=B5.at1 4 _ rfl;have z2:=B5.at1 5 _ rfl;have z3:=B5.at1 6 _ rfl;have z4:=B5.at1 7 _ rfl;have g1:=B5.frozen 4;have g2:=B5.frozen 5;have g3:=B5.frozen 6;have g4:=B5.frozen 7)
        all_goals
         obtain⟨R5,gr5⟩:=eO [.bool N5,.slice A5 K5 C5,.bool N6,.slice A6 K6 C6] 4 w5 _ B5 (by simp[bI]);have hl5:Lr (some mb) aR w5 _:=⟨gr5,λk hk=>by cases hk;exact⟨B5.noOther,R5.noOther⟩⟩;have hb25:Below W2.heap.size W2 w5:=(ql (Below.refl _ _) _).trans (hb5.mono (nL _));have hbw5:=hbr2.trans (hb25.mono hbr2.size);have hown5:=(hown2.out.on hb25).lr hl5 (bu dM) (.inr a7);have ha5:=(ha2.out.on hb25).lrB hl5 (bu dM) (λI n c h=>by simp only[Value.slice.injEq,sJ]at h;rw[<-h.1];simpa using ac);have hr5:=(hv5.lr hl5 dM).cellsC (cs:=[.bool N5,.slice A5 K5 C5,.bool N6,.slice A6 K6 C6]);have hbw6:=hbw5.trans (hl5.belowAt hbw5.size (λk hk=>by cases hk;exact an));clear z1 z2 z3 z4 g1 g2 g3 g4 B5 hv5 hl5 gr5;go_wp2;go_meet
         case rel=>exact⟨_,zH R5,zH hr5,zH hown5,zH ha5,hbw6⟩
       case rest =>
        clear B2 hown2 ha2 hra2 hdiv y1 y2 y3 y4 x1 x2 x3 x4 f1 f2 f3 f4 u1 u2 u3 u4 hbr2;obtain⟨r',hB1,X,d,ha,l⟩:=hcut;have J:=hB1.out;have ar:=X.out.len;have hlen8:(bI E++r').length=8:=by rw[List.length_append,ar];rfl
        have a1:some mb≠u6.ownBlock:=λh=>a7 h.symm;replace q:=zH q;clear hB1 b0
        go_upto_region 13 with (fail)
        refine aI trivial (u6.ownBlock) (aR) (d.out.okr) [.eq (u6),.eq (.agg (bI E++r').toArray),.new1 aT fJ ((E,m.2/g.2)),.row aT (w.heap.size) wc.heap.size (out++[(E,m.2/g.2)])] [58,59,60,61] rfl rfl rfl rfl ⟨λ_ _ a _ _ _=>xM rfl (a 6 rfl),λ_ _ a hL _ _=>pL rfl ((J.lr hL a1).cells.range) Tryz.underlying43 (hlen8) (a 8 rfl),?_,?_,trivial⟩ ?_
        ·intro A w1 hA hL hS he;have h59:=eT 59 (he.1 rfl);refine af rfl ?_;have hE:(aT:El _).E w1 _ ((E,m.2/g.2)):=⟨_,rfl,X.out.lr hL dM⟩;refine fI rfl rfl ((d.out.okr).lr hL) hE (bH rfl ?_) (λ_ _ h=>h);simp only[List.map_toArray,List.map_cons,List.map_nil,h59];exact bS _ _ ((aT).len hE)
        ·intro A w1 hA hL hS he;have hb:=hS rfl;have ay:Below w.heap.size w w1:=l.trans (hL.belowAt l.size q.out);have h58:=eT 58 (he.1 rfl);obtain⟨v60,h60,f60⟩:=fT 60 (he.2.1 rfl);exact af rfl (dZ rfl rfl rfl Tryz.underlying27 bQ h58 h60 (d.out.on hb) rfl rfl (eD f60) (by simp only[List.length_cons,List.length_nil];omega) (ay.size) hL.1.size (λ_ _ h1 h2=>⟨h1,h2⟩))
        ·intro W6 hL6;simp only[aQ,ae.eq,ae.new1,ae.row,ae.asPure,ae.of,ae.fragile,lZ];rintro v60 - v61 ⟨hown6,ad⟩;go_frame;have hbW6:=l.trans (hL6.belowAt l.size q.out);have ha6:=ha.out.lrB hL6 (bu dM) (λI n c h=>by simp only[Value.slice.injEq,sJ]at h;rw[<-h.1];exact hne1);have B6:=J.lr hL6 a1;have hr6:=X.out.lr hL6 dM;have hq6:=hq.out.on hbW6;have hblk6:=zH hown6.base_le;clear hL6 J ha d X l ad
         go_upto_region 14 with (fail)
         refine aI trivial (none) (0) (eQ.none) [.eq (.slice (some ⟨B,G,none⟩) (a.length+1) ca),.eq (.slice (some ⟨M,oq,none⟩) (b.length+1) cq),.eq (.agg (bI E++r').toArray),.poly dM dM ((aO (g::b) [(E,m.2/g.2)])),.own W6.heap.size (dL (m::a) (aO (g::b) [(E,m.2/g.2)]))] [62,63,64,65,66] rfl rfl rfl rfl ⟨λ_ _ a _ _ _=>xM rfl (a 7 rfl),λ_ _ a _ _ _=>xM rfl (a 1 rfl),λ_ _ a hL _ _=>pL rfl ((B6.on hL.below).cells.range) Tryz.underlying43 (hlen8) (a 8 rfl),λA _ _ _ hS he=>have hb:=hS rfl;have h63:=eT 63 (he.1 rfl);have h64:=eT 64 (he.2.1 rfl);have hf0:=eF A 44;cP (f:=44) (args:=#[.slice (some ⟨M,oq,none⟩) (b.length+1) cq,.agg (bI E++r').toArray]) (b4.out _ _ (hq6.on hb) _ ⟨_,rfl,hr6.on hb⟩),?_,trivial⟩ ?_
         ·intro A w1 hA hL hS he;have hb:=hS rfl;have h62:=eT 62 (he.1 rfl);obtain⟨v65,h65,f65⟩:=fT 65 (he.2.1 rfl);have hf0:=eF A 35;refine af rfl ?_;refine dR (f:=35) (args:=#[.slice (some ⟨B,G,none⟩) (a.length+1) ca,v65]) rfl rfl ?_ ?_
          ·exact gZ
          ·refine(UQ ab PT (ha6.on hb) f65).mono ?_;rintro e w' ⟨v,rfl,hi,ax⟩;exact⟨_,rfl,ax,hi.base_mono hb.size⟩
         ·intro W7 hL7;have hb7:=hL7.below;simp only[aQ,ae.eq,ae.poly,ae.own,ae.of,lZ];rintro v65 - v66 hown9;go_frame;have hown7:=hown6.on hb7;have hbW7:=hbW6.trans (hb7.mono hbW6.size)
          have L:(dL (m::a) (aO (g::b) [(E,m.2/g.2)]))≠[]->∀I n c,v66=.slice (some I) n c->some I.block≠v61.ownBlock:=λ_ I n c h hc=>by
           have h1:=(hblk6.out I.block hc.symm).2;obtain⟨xs,⟨-,h2⟩,-⟩:=hown9;rcases h2 with ⟨h2,-⟩|⟨gg,cap,b7,h2,h3,-⟩
           ·rw[h]at h2;cases h2
           ·rw[h]at h2;cases h2;simp only at h1;omega
          replace L:=zH L;clear hL7 hb7 hown6 ha6 B6 hr6 hq6 hbW6;go_wp2;go_roundg n'
          case measure=>have:=a6.out;omega
          case rel=>exact⟨_,_,zH hown9.isSl,zH hown7,N,hbW7,L⟩
theorem UR(vp vq:Value)(p b:List ai)(g:ai)(n:Nat)(r:Option (List ai))(sa sb sq:Sz)(w:World)(hp:aj w vp p)(hq:aj w vq (g::b))(d:UN sa sb sq (g::b) g)(hd:Jf sa sq (g::b) g n p [] r) :
  Calls Tryz.prog 25 #[vp,vq] w (yK w r):=zac vp vq p b g n r w hp hq d.pb.wr (hd.w d)
end Go.Proofs.YtopclbeomcggiaaGreat
end
section
namespace Q
open Go Go.Proofs.YtopclbeomcggiaaGreat
theorem G5{d sb sq:Sz}{g:ai}{ts:List ai}(hb:Pk sb (g::ts))(k:(d.mul sb).ok):∀(s out:List ai),Pk d s->(∀t∈s,Bd sq [t])->out.length+s.length<=100000000->Jf (d.mul sb) sq (g::ts) g s.length (aO s (g::ts)) out (some (out++s))
 | [],out,_,_,_=>by rw[List.append_nil];exact .done
 | x::s,out,hs,hq,hn=>by have hz:=(hb.v.2 g sM).1;have l:=hs.v.2 x sM;obtain⟨m,n⟩:=Co hs.v hb.v;obtain⟨a,ha⟩:=Cm (aY.mul _ _) (jr l.1 hz) m n;have j:=hs.mul hb k;have i:Pk d s:=⟨hs.v.tail,hs.b.sub (List.sublist_cons_self _ _),hs.k⟩;have q:=G5 hb k s (out++[x]) i (λt p=>hq t (by simp[p])) (by simp at hn ⊢;omega);have e:=Eo hs.v hb.v aY.nil;rw[yT (aY.mul _ _),yT (aY.mul _ _)]at e;rw[ha]at j e ⊢;have h:=Em (x:=x) hz;have o:((x.1.add g.1).sub g.1)=x.1:=congrArg Prod.fst h;refine .step (by show((x.1.add g.1).sub g.1).nat=true;rw[o];exact l.2) j (by rw[h];exact hq x sM) (by simp at hn;omega) ?_;rw[h,e];simpa using q
end Q
namespace Go.Proofs.YtopclbeomcggiaaGreat
open Go Go.RowKit Q
def Cs (w:World) (s:List ai) (t:Bool) (e:Ending) (w':World):Prop:=∃v,e=.returned (.tuple #[v,.bool t])/\aj w' v s/\Below w.heap.size w w'
end Go.Proofs.YtopclbeomcggiaaGreat
end
section
namespace Q
open MP Go.Proofs.YtopclbeomcggiaaGreat
theorem UT{D H K:Nat}{g k s:MP}(hg:qW D H g)(F:0<D)(G:qW 1 K k)(n:g≠0)(e:g=k*s)(dg:Dg D8 g):∃z,0<z/\z<=K/\qW (z*D) (2^72*H) s:=by
 have k0:k≠0:=λh=>n (by rw[e,h];grind);have X:s≠0:=λh=>n (by rw[e,h];grind);obtain⟨r,p,hp⟩:=Pj k0;have R:c r*c r⁻¹=1:=by rw[lC,Rat.mul_inv_cancel _ p];rfl
 have i:r⁻¹≠0:=λh=>by have:=Rat.mul_inv_cancel _ p;rw[h]at this;grind
 have i1:=Ey G.d hp (gR:k=(c r*k)*c r⁻¹)
 obtain⟨b,hz⟩:∃b:Int,r⁻¹=(b:Rat):=by refine gJ ?_;have u:=vJ i;obtain⟨t,S,L⟩:=xQ u;have o:=uw i 1;have q:c r⁻¹*1=c r⁻¹:=gR;rw[q,Az,Rat.one_mul]at o;rw[<-o,L];exact i1 t S
 have W:b≠0:=λh=>i (by rw[hz,h];rfl);have m:((b.natAbs:Nat):Rat)=bO r⁻¹:=by rw[hz,Q.rabs_int]
 have O:b.natAbs<=K:=by
  refine Rat.natCast_le_natCast.1 ?_
  have o:k.am=bO r⁻¹*(c r*k).am:=by rw[<-oh];congr 1;grind
  have q:=Ao hp.1 (mul_ne (vJ p) k0);have C:=Rat.mul_le_mul_of_nonneg_left q (fo r⁻¹);have E:=G.a;rw[show((1:Nat):Rat)=1 from rfl,Rat.one_mul]at E;rw[m];rw[Rat.mul_one,<-o]at C;exact Rat.le_trans C E
 have j:(D:Rat)≠0:=jG F
 have B:c (D:Rat)*g=(c r*k)*(c ((D:Rat)*r⁻¹)*s):=by
  have M:c r*c ((D:Rat)*r⁻¹)=c (D:Rat):=by rw[lC];congr 1;have:=Rat.mul_inv_cancel _ p;grind
  rw[e,<-M];grind
 have y:=Ey (qO hg.d) hp B;have dP:Dg D8 (c (D:Rat)*g):=λw I=>by rw[sZ j n];exact dg w I
 have hf:=MP.fac D8 3 oM _ _ _ (B.trans (gX _ _)) (mul_ne (vJ j) n) y hp.1 (XC dP) λw I=>dP w oM;rw[oh (D:Rat) g,bK (bT D)]at hf;have l:bO ((D:Rat)*r⁻¹)=((b.natAbs*D:Nat):Rat):=by rw[jB,bK (bT D),<-m,Rat.natCast_mul];grind
 refine⟨b.natAbs,oM,O,Ev (Nat.mul_pos oM F) ?_,?_⟩
 ·have N:((b.natAbs*D:Nat):Rat)=(D:Rat)*r⁻¹\/((b.natAbs*D:Nat):Rat)=-((D:Rat)*r⁻¹):=by
   rw[<-l];rcases vQ ((D:Rat)*r⁻¹)with h|h
   ·exact .inr (oC h)
   ·exact .inl (bK h)
  rcases N with h|h
  ·rw[h];exact y
  ·rw[h];have J:c (-((D:Rat)*r⁻¹))*s=-(c ((D:Rat)*r⁻¹)*s):=ext' λx=>by rw[MP.ev_mul,MP.ev_c,MP.ev_neg,MP.ev_mul,MP.ev_c];grind
   rw[J];exact NH y
 ·rw[<-l,<-oh];rw[Rat.natCast_mul];exact Rat.le_trans hf (pM (zl XD) hg.a (bT _) (bT _))
theorem WV{Dq d:Nat}{q z:MP}{t:ai}{r:List ai}(hz:z.l=t::r)(e:Pk (mM Dq) q.l)(h:Pk (mM d) z.l)(x:Dq*d<65536)(m:d*Dq<65536)(o:Dq*d*t.2.num.natAbs<4294967296) :
  UN ((mM Dq).mul (mM d)) (mM d) (mM Dq) (t::r) t/\Jf ((mM Dq).mul (mM d)) (mM Dq) (t::r) t q.l.length (aO q.l (t::r)) [] (some q.l):=by
 have i:=e.k.1;have j:=h.k.1;have hm:((mM d).mul (mM Dq)).ok:=zw j i m;refine⟨⟨hz▸h,⟨r,rfl⟩,e.k,hm,?_,o⟩,?_⟩
 ·refine⟨Nat.mul_pos (Nat.mul_pos j i) Nat.one_pos,?_,?_,?_,?_⟩
  ·show d*Dq*1<65536;omega
  ·show 2^200*2^200*1<2^1000;rw[nU];exact Ue
  ·show 4+4+0<1000000;omega
  ·show 75*75*1<1000000;omega
 ·have y:((mM Dq).mul (mM d)).ok:=zw i j x;have:=G5 (sq:=mM Dq) (hz▸h:Pk (mM d) (t::r)) y q.l [] e (λu hu=>e.b.sub (List.singleton_sublist.2 hu)) (by have p:=e.b.n;have s:(mM Dq).N=75:=rfl;rw[s]at p;simp only[List.length_nil];omega);simpa using this
theorem YX{a b k:MP}(ha:Dm a)(hb:Dm b)(K:Dm k)(B:a*k≠0\/b*k≠0):∃g x y s:MP,∃t r,∃z G:Nat,An (a*k) (b*k) g/\g.l=t::r/\t.2=1/\a*k=x*g/\b*k=y*g/\g=s*k/\An x y 1/\0<z/\z<=225/\Pk (mM z) g.l/\Pk (mM 1) x.l/\Pk (mM 1) y.l/\0<G/\G<=3375/\Pk (mM G) s.l:=by
 have C:=ha.mul K;have D:=hb.mul K;have S:=C.in90 oM;have W:=D.in90 oM;obtain⟨g,eg,hg⟩:=Je C.d D.d S W
 have k0:k≠0:=λh=>by
  rcases B with j|j
  ·exact j (by rw[h];grind)
  ·exact j (by rw[h];grind)
 have o:g≠0:=λh=>by
  rw[h]at hg;rcases B with j|j
  ·exact j (zero_dvd hg.i.l)
  ·exact j (zero_dvd hg.i.r)
 obtain⟨t,r,R⟩:=jR o;have ht:t.2=1:=by rw[<-hg.n o,BA R]
 obtain⟨x,ex⟩:=hg.i.l;obtain⟨y,H⟩:=hg.i.r;obtain⟨s,es⟩:=hg.i.u k (dvd_mul_left k a) (dvd_mul_left k b);have p:=hg.n o
 -- sizes
 have J:∃z,0<z/\z<=225/\qW z (2^72*225) g/\Dg D8 g:=by
  rcases B with j|j
  ·obtain⟨z,m,E,F,-⟩:=AB C j ex p;exact⟨z,m,E,F,C.d.dvd j ⟨x,ex⟩⟩
  ·obtain⟨z,m,E,F,-⟩:=AB D j H p;exact⟨z,m,E,F,D.d.dvd j ⟨y,H⟩⟩
 obtain⟨z,m,E,F,dg⟩:=J;have hB:2^72*225<=2^200:=dK
 have I:∀{f w:MP},Dq 225 f->f=g*w->Dg D8 w/\In 90 w/\Pk (mM 1) w.l:=λ{f w} hf e=>by
  by_cases f0:f=0
  ·have w0:w=0:=by
    rcases mul_eq_zero.1 (e.symm.trans f0)with h|h
    ·exact absurd h o
    ·exact h
   rw[w0];exact⟨zx.1,zx.2,uy⟩
  ·obtain⟨z',a1,a2,-,M⟩:=AB hf f0 e p;have hd:Dg D8 w:=hf.d.dvd f0 ⟨g,e.trans (gX g w)⟩;have j:=Nat.mul_le_mul_right (2^72*225) a2;exact⟨hd,⟨1,_,oM,Nat.one_le_two_pow,Nat.le_trans j dK,M⟩,w.v,AC M oM hd (Nat.le_trans j dK),xS oM oM⟩
 obtain⟨N,X,Z⟩:=I C ex;obtain⟨O,Y,Ky⟩:=I D H;obtain⟨k',ek,q⟩:=Je N O X Y;have e1:=hg.coprime o ex H q;rw[e1]at q;obtain⟨G,L,y2,y3⟩:=UT F m K.i o es dg;have ds:Dg D8 s:=dg.dvd o ⟨k,es.trans (gX k s)⟩;have h3:G*z<=15*225:=Nat.mul_le_mul y2 E
 exact⟨g,x,y,s,t,r,z,G*z,zy C.d D.d S W hg,R,ht,ex.trans (gX g x),H.trans (gX g y),es.trans (gX k s),zy N O X Y q,m,E,
  ⟨g.v,AC F m dg hB,xS m oM⟩,Z,Ky,Nat.mul_pos L m,oM,s.v,AC y3 (Nat.mul_pos L m) ds dK,xS (Nat.mul_pos L m) oM⟩
end Q
end
section
namespace Go.Proofs.YtopclbeomcggiaaGreat
open Go.RowKit Q
variable {w:World} {p:List ai}
theorem Rq(vp:Value)(p:List ai)(v:Nat)(w:World)(h:aj w vp p)(hv:v<4)(q:p.length<=100000000):Calls Tryz.prog 27 #[vp,.int .i64 v] w (oP w (.int .i64 (aH p v))):=by
 obtain⟨s,cap,rfl,m⟩:=h.shape;obtain⟨R,j⟩:∃R,R=aH p v:=⟨_,rfl⟩;rw[<-j];replace j:=zH j;replace h:=zH h;have hv4:(v:Int)<4:=oM
 go_enter Tryz.func27,Tryz.ntmps27
 go_wp2
 go_loopw [5,6] (λd i wr=>∃k:Nat,k<=p.length/\i=.int .i64 k/\d=.int .i64 (aH (p.take k) v)/\Below w.heap.size w wr) (λ_ i _=>p.length-(intOf i).toNat)
 case atStart=>exact⟨0,oM,rfl,rfl,Below.refl _ _⟩
 case round =>
  obtain⟨k,u,rfl,rfl,hb⟩:=hrel;by_cases b:k<p.length
  ·have n:p[k]?=some p[k]:=gE b
   have bN:aH (p.take (k+1)) v=max (aH (p.take k) v) (p[k].1.get v):=by unfold aH;rw[List.take_succ_eq_append_getElem b,List.foldl_append];rfl
   generalize p[k]=t at n bN;obtain⟨l,off,r,rfl,-,hC⟩:=fO (h.out.on hb) n;have o:(k:Int)<p.length:=oM
   have z:wr.cell? ⟨l,off+k*8+v,none⟩=some (.int .i64 (t.1.get v)):=by rw[hC.cell v (by simp[bI];omega)];exact oW t.1 v hv r
   generalize t.1.get v=x at *;generalize aH (p.take k) v=d at *;replace bN:=zH bN;clear hC
   go_wp2_with (refine ak rfl _ _ 27 rfl aR Tryz.underlying27 _ 8 96 kM _ _ _ rfl .i64 _ rfl k rfl b l off rfl ?_)
   go_roundw
   case measure=>simp[intOf];omega
   case rel=>exact⟨k+1,oM,nM,by rw[bN.out],hb⟩
  ·obtain rfl:k=p.length:=oM;rw[tL (nL _),<-j.out];go_wp2;go_ret;exact⟨rfl,hb⟩
theorem YY{s:Sz}{vp:Value}{v:Nat}(b:Pk s p)(hv:v<4)(hp:aj w vp p):Calls Tryz.prog 27 #[vp,.int .i64 v] w (oP w (.int .i64 (aH p v))):=Rq vp p v w hp hv b.len
end Go.Proofs.YtopclbeomcggiaaGreat
end
section
namespace Q
open Go Go.Proofs.YtopclbeomcggiaaGreat
theorem WW{c:Rat}(h:Dv 1 c):c.den=1:=by
 obtain⟨z,rfl⟩:=gJ h
 rfl
theorem L6:∀{l:List ai},(∀t∈l,Dv 1 t.2)->xG l=1
 | [],_=>rfl
 | t::l,h=>by rw[xG,WW (h t (by simp)),L6 λu hu=>h u (by simp[hu])];rfl
structure Is (s:Sz):Prop where
 d:s.D=1
 b:s.B<=2^200
 e:s.E<=1000
 n:s.N<=900
theorem YZ{s:Sz}{p:List ai}(hb:Bd s p)(h:Is s):Vw p=true:=by
 have hd:∀t∈p,Dv 1 t.2:=λt i=>h.d▸hb.d t i;have q:=hb.n;have m:=h.n;have l:=h.e;simp only[Vw,Bool.and_eq_true,decide_eq_true_eq,List.all_eq_true];refine⟨⟨⟨oM,λt i=>?_⟩,by rw[L6 hd];decide +kernel⟩,?_⟩
 ·have:=hb.e t i;exact⟨⟨⟨⟨⟨⟨⟨oM,oM⟩,oM⟩,oM⟩,oM⟩,oM⟩,oM⟩,oM⟩
 ·have j:=(NY (D:=1) Nat.one_pos (Jb hd)).2;rw[bK (kH p),Q.rabs_int,show((1:Nat):Rat)=1 from rfl,Rat.one_mul]at j;have k:QZ p<=s.B:=Rat.natCast_le_natCast.1 (Rat.le_trans j hb.b);have o:=Jc (Nat.le_trans k h.b);rw[Bi];omega
theorem Oe{s:Sz}{p:List ai}(hv:aY p)(hb:Bd s p)(h:Is s):BP p=true:=by rw[BP,Bool.and_eq_true];exact⟨sI.2 hv,YZ hb h⟩
theorem Og{d sb:Sz}{s b:List ai}(i:b≠[])(j:aY s)(hv:aY b)(e:Bd d s)(hb:Bd sb b)(k:Is (d.mul sb))(kp:Is d):fQ (aO s b) b=some s:=by
 cases b with
 | nil=>exact absurd rfl i
 | cons g ts =>
  have q:=e.n;have p:=kp.n
  have h:=xR hv s [] fuel j (λx r o=>by
   have m:Bd d (x::r):=e.sub o.sublist;have l:aY (x::r):=j.sublist o.sublist
   exact⟨Oe (aY.mul _ _) (m.prods hb).canon k,Oe (l.sublist (List.singleton_sublist.2 sM)) (m.sub (List.singleton_sublist.2 sM)) kp⟩) (by unfold fuel;omega)
  rw[fQ,yO,h];simp only[List.nil_append,Option.getD_some];show g1 s=some s;rw[g1,if_pos (Oe j e kp)]
end Q
end
