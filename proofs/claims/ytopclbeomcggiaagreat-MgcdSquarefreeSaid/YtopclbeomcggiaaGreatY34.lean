/- R8.Gcd's run, plain: exact divisions. No program in sight. -/
import Derived.Test.YtopclbeomcggiaaGreatY33
set_option linter.unusedVariables false
set_option linter.unusedSimpArgs false
set_option maxHeartbeats 16000000
set_option maxRecDepth 100000
section
namespace Q
open MP Go.Proofs.YtopclbeomcggiaaGreat
theorem OP{g:aj}{ts:List aj}(hb:Wr (g::ts)):∀(s out:List aj),bQ s->(∀e:List aj,e.Sublist s->Wr (aZ e (g::ts)))->(∀x∈s,Wr [x]/\Wr (aZ (g::ts) [x])/\∀t∈g::ts,InR (t.1.add x.1))->out.length+s.length<=100000000 ->
  wL (g::ts) g s.length (aZ s (g::ts)) out (some (out++s))
 | [],out,_,_,_,_=>by rw[List.append_nil];exact .done
 | x::s,out,vs,hm,hx,hn=>by have hz:=(hb.v.2 g sM).1;have d:=vs.2 x sM;obtain⟨x1,x2,n⟩:=hx x sM;obtain⟨o,l⟩:=BM vs hb.v;obtain⟨a,ha⟩:=BL (bQ.mul _ _) (jm d.1 hz) o l;have j:=hm (x::s) (List.Sublist.refl _);have p:=OP hb s (out++[x]) vs.tail (λe h=>hm e (h.trans (List.sublist_cons_self _ _))) (λt m=>hx t (by simp[m])) (by simp at hn ⊢;omega);have i:=Dx vs hb.v bQ.nil;rw[yG (bQ.mul _ _),yG (bQ.mul _ _)]at i;rw[ha]at j i ⊢;have b:=Dw (x:=x) hz;have k:((x.1.add g.1).sub g.1)=x.1:=congrArg Prod.fst b;refine .step (by show((x.1.add g.1).sub g.1).nat=true;rw[k];exact d.2) j (by show InR ((x.1.add g.1).sub g.1);rw[k];exact x1.ir x sM) (by rw[b];exact x1) (by rw[b];exact x2) (by rw[b];exact n) (by simp at hn;omega) ?_;rw[b,i];simpa using p
theorem IM{dq dz d:Nat->Nat}{b k:Nat}{q z:MP}{g:aj}{ts:List aj}(j:z.l=g::ts)(hq:Dg dq q)(hz:Dg dz z)(hd:∀w,w<4->dq w+dz w<=d w)(o:In b q)(B:In k z)(r:bx d<=10000)(hb:b+k<7900000000) :
  Wr (g::ts)/\wL (g::ts) g q.l.length (q*z).l [] (some q.l):=by
 have D:=ul hq hz hd o B r hb;have y:Dg d q:=λw n=>by have F:=hq w n;have E:=hd w n;omega
 have wq:=jE y o r oM;have C:Wr (g::ts):=j▸D.wq;refine⟨C,?_⟩
 have u:∀m:List aj,m.Sublist q.l->Wr (aZ m (g::ts)):=λm h=>by have:=(ul (p:=⟨m,q.v.sublist h⟩) (TJ hq h) hz hd (TH o h) B r hb).ms z.l.length;rw[tL (nL _),j]at this;exact this
 have s:=ul hz hq (λw n=>by have:=hd w n;omega) B o r oM;have:=OP C q.l [] q.v u (λx i=>?_) (by simpa using wq.w.len)
 ·have e:(q*z).l=aZ q.l (g::ts):=by rw[<-j];rfl
  rw[e];simpa using this
 ·obtain⟨t1,t2⟩:=s.ti x i;have h:[x].Sublist q.l:=List.singleton_sublist.2 i;rw[Ai z.v (q.v.sublist h),j]at t1;rw[j]at t2;exact⟨wq.w.sub h,t1,t2⟩
def Bj (d:Nat->Nat) (b:Nat) (G:mE):Prop:=∀x y:MP,Dg d x->Dg d y->In b x->In b y->∃g:MP,G x.l y.l g.l/\NG g x y
def YV (G:mE):Prop:=∀(d:Nat->Nat)(b:Nat)(x:MP),Dg d x->In b x->bx d<=10000->b<7900000000->G [] x.l (nrm x).l
theorem KQ{v x:Nat}{L:nu}(h:qO v L)(F:x<=L.br){G:mE}(B:Bj (dW v L.E 0) L.bE G):∀(l:List (List aj))(b:MP),(∀c∈l,YK v L x c) ->
  (b=0\/(hd b=1/\∃f:MP,f≠0/\b∣f/\Dg (dW v L.E 0) f/\In x f)) ->
  ∃g:MP,nz G l b.l g.l/\g∣b/\(∀f:MP,f.l∈l->g∣f)/\(∀d,d∣b->(∀f:MP,f.l∈l->d∣f)->d∣g)/\(g≠0->hd g=1)
 | [],b,_,ha=>⟨b,rfl,dvd_refl _,λf hf=>(by cases hf),λd h _=>h,λh0=>ha.elim (λe=>absurd e h0) λe=>e.1⟩
 | c::l,b,hl,ha=>by
  obtain⟨f,rfl,C,hf⟩:=hl c sM
  have j:Dg (dW v L.E 0) b/\In L.bE b:=by
   rcases ha with e|⟨s,p,f0,o,z,y⟩
   ·rw[e];exact⟨λw _=>by rw[deg_zero];omega,In.zero _⟩
   ·obtain⟨H,M⟩:=su h s f0 o z y;exact⟨H,M.mono (OE F)⟩
  obtain⟨g,J,hg⟩:=B b f j.1 C j.2 (hf.mono (by unfold nu.bE;omega))
  obtain⟨k,e,D,k2,K,I⟩:=KQ h F B l g (λc hc=>hl c (by simp[hc])) (by
   by_cases q:g=0
   ·exact .inl q
   ·refine .inr ⟨hg.n q,?_⟩;by_cases f0:f=0
    ·rcases ha with e|⟨-,p,h0,o,z,y⟩
     ·exact absurd (zero_dvd (hg.i.u 0 (by rw[e];exact dvd_refl 0) (by rw[f0];exact dvd_refl 0))) q
     ·exact⟨p,h0,dvd_trans hg.i.l o,z,y⟩
    ·exact⟨f,f0,hg.i.r,C,hf⟩)
  refine⟨k,⟨g.l,J,e⟩,dvd_trans D hg.i.l,λp m=>?_,λd s o=>K d (hg.i.u d s (o f sM)) λf hf=>o f (by simp[hf]),I⟩;rcases List.mem_cons.1 m with e|m
  ·rw[MP.eq_of e];exact dvd_trans D hg.i.r
  ·exact k2 p m
theorem OQ{v:Nat}{a g:MP}(k:∀f:MP,f.l∈aB a.l v->g∣f)(j:∀d,d∣0->(∀f:MP,f.l∈aB a.l v->d∣f)->d∣g):uG v g a:=by
 have b:∀n,g∣a.co v n:=λn=>by
  rcases Nat.lt_or_ge n (aD a.l v+1).toNat with h|h
  ·refine k _ ?_;show aR a.l v n∈aB a.l v;exact List.mem_map.2 ⟨n,List.mem_range.2 h,rfl⟩
  ·rw[co_above (by have e:a.deg v=aD a.l v:=rfl;have:=deg_ge v a;omega)];exact dvd_zero g
 have hf:g.fr v:=by
  by_cases ha:a=0
  ·have:g=0:=by
    have m:=j 0 (dvd_refl 0) λf hf=>by rw[ha]at hf;cases hf
    exact zero_dvd m
   rw[this];exact qR v
  ·exact sI (lc_ne ha v) (b _) (lc_fr v a)
 refine⟨hf,(dvd_iff_co hf a).2 b,λd hd i=>j d (dvd_zero d) λf hf=>?_⟩;obtain⟨n,h⟩:=fH hf;have:f=a.co v n:=MP.eq_of h;rw[this];exact(dvd_iff_co hd a).1 i n
theorem EE{v x:Nat}{L:nu}(h:qO v L)(u:x<=L.br){G:mE}(q:Bj (dW v L.E 0) L.bE G){a:MP}(j:a.lo (v+1))(ha:∀w,w<v->a.deg w<=L.E)(k:In x a) :
  ∃g:MP,nz G (aB a.l v) [] g.l/\uG v g a/\(g≠0->hd g=1)/\(a≠0->Dg (dW v L.E 0) g/\In (L.cz v x) g):=by
 obtain⟨g,p,-,b,s,o⟩:=KQ h u q (aB a.l v) 0 (λc hc=>by
  obtain⟨n,e⟩:=fH hc;obtain⟨i,b⟩:=Ah h j ha k n
  exact⟨a.co v n,e.symm,i,b⟩) (.inl rfl)
 have hg:=OQ b s;refine⟨g,p,hg,o,λm=>?_⟩;have r:=dvd_ne m hg.d;obtain⟨i,b⟩:=Ah h j ha k (a.deg v).toNat;exact su h (o r) (lc_ne m v) ((dvd_iff_co hg.f a).1 hg.d _) i b
theorem IP{v:Nat}{G:mE}{a g q:MP}{d:Nat->Nat}{b k:Nat}(i:a≠0)(hc:nz G (aB a.l v) [] g.l)(e:a=q*g)
  (ha:Dg d a) (o:In b q) (x:In k g) (p:bx d<=10000) (hb:b+k<7900000000) (hv:v<4) :
  QG G a.l v (nrm q).l:=by
 have n:q≠0:=λh=>i (by rw[e,h];grind);have j:g≠0:=λh=>i (by rw[e,h];grind);have m:Dg d q:=ha.dvd i ⟨g,e⟩
 have B:∀w,w<4->(q.deg w).toNat+(g.deg w).toNat<=d w:=λw z=>by have r:=ha w z;rw[e,deg_mul n j]at r;have:=deg_pos n w;have:=deg_pos j w;omega
 obtain⟨t,l,s⟩:=je j;obtain⟨r,y⟩:=IM s (dq:=λw=>(q.deg w).toNat) (dz:=λw=>(g.deg w).toNat) (λw _=>by show q.deg w<=((q.deg w).toNat:Int);have:=deg_pos n w;omega) (λw _=>by show g.deg w<=((g.deg w).toNat:Int);have:=deg_pos j w;omega) B o x p hb;have u:=jE ha (by rw[e];exact TI o x) p hb;refine⟨q.l,u.deg v,u.w.len,?_,pQ m o p oM⟩;refine .inr ⟨λh=>i (zero_iff.2 h),t,l,q.l.length,by rw[<-s];exact hc,r,by rw[e];exact y⟩
theorem YW(v i:Nat):rF (sF v) i=(xk v i).l:=by
 have e:(⟨rF (sF v) i,bQ.pow _ _⟩:MP)=xk v i:=ext' λx=>by rw[ev_xk];show ev x (rF (sF v) i)=_;rw[ev_pow x (bQ.var v).nat,QM]
 exact congrArg MP.l e
theorem TK(v i:Nat):uh 1 1 (xk v i):=by
 refine⟨λt b=>?_,?_⟩
 ·have b:t∈[(e0.put v i,(1:Rat))]:=b;rw[List.mem_singleton.1 b];exact⟨1,by show(1:Rat)*((1:Nat):Rat)=((1:Int):Rat);decide +kernel⟩
 ·show((1:Nat):Rat)*(bJ 1+0)<=((1:Nat):Rat);decide +kernel
theorem VZ(v i:Nat):In 0 (xk v i):=⟨1,1,oM,sM,sM,TK v i⟩
theorem V3{v i:Nat}(hv:v<4):Dg (dW v 0 i) (xk v i):=λw b=>by
 unfold dW;by_cases h:w=v
 ·subst h;rw[if_neg oM,if_pos rfl,deg_xk];omega
 ·rw[rQ b hv (λe=>h e.symm)];omega
theorem V4{v x t:Nat}(hv:v<4){p:MP}(h:Dg (dW v x t) p)(n:Nat):Dg (dW v x 0) (p.co v n):=λw i=>by
 have d:=rP v n p i hv (h w i);unfold dW at *;split
 ·rename_i e;rwa[if_pos e]at d
 ·rename_i e;by_cases b:w=v
  ·subst b;have:(p.co w n).deg w<=0:=co_fr w n p;rw[if_pos rfl];omega
  ·rw[if_neg e,if_neg b]at d;rw[if_neg b];exact d
theorem uw{v x t x' t':Nat}(hv:v<4)(d:x<=x')(b:t<=t')(h:(t'+1)*(x'+1)^v<=10000):bx (dW v x t)<=10000:=by rw[Ag hv];exact Nat.le_trans (Nat.mul_le_mul oM (Nat.pow_le_pow_left oM v)) h
theorem wH{v x t x' t' X T:Nat}(d:x+x'<=X)(b:t+t'<=T)(w:Nat):dW v x t w+dW v x' t' w<=dW v X T w:=by
 unfold dW;split
 ·exact d
 ·split
  ·exact b
  ·omega
theorem Vs{v n i A al M X B:Nat}{y x:MP}(hv:v<4)(hn:y.deg v=(n:Int))(m:Dg (dW v A n) y)(h:In al y)(o:Dg (dW v X M) x)(b:In B x)(hM:n+i<=M)(hx:x.deg v<((n+i+1:Nat):Int))(hb:(M+1)*(X+A+1)^v<=10000)(hs:B+(al+1)<7900000000) :
  xA (x.co v (n+i)).l (rF (sF v) i)/\xA (y.co v n).l x.l/\xA (Ed v n x.l i) y.l/\Wr (aZ (y.co v n).l x.l)/\Wr (aZ (Ed v n x.l i) y.l) /\
   ∃z:MP,Ee v n (y.co v n).l y.l x.l i=z.l/\z=y.co v n*x-(x.co v (n+i)*xk v i)*y/\Dg (dW v (X+A) M) z/\In (B+(al+1)) z/\z.deg v<((n+i:Nat):Int):=by
 have G:Ed v n x.l i=(x.co v (n+i)*xk v i).l:=by rw[Ed,YW];rfl
 have K:=V4 hv m n;have C:=V4 hv o (n+i);have u:=h.co v n;have s:=b.co v (n+i);have E:Dg (dW v X i) (x.co v (n+i)*xk v i):=IL C (V3 hv) λw _=>wH oM oM w;have q:In B (x.co v (n+i)*xk v i):=(s.mul (VZ v i)).mono oM;have m1:xA (x.co v (n+i)).l (xk v i).l:=ul (d:=dW v X i) C (V3 hv) (λw _=>wH oM oM w) s (VZ v i) (uw hv oM oM hb) oM;have m2:xA (y.co v n).l x.l:=ul (d:=dW v (X+A) M) K o (λw _=>wH oM oM w) u b (uw hv (nL _) (nL _) hb) oM;have N:xA (x.co v (n+i)*xk v i).l y.l:=ul (d:=dW v (X+A) M) E m (λw _=>wH oM oM w) q h (uw hv (nL _) (nL _) hb) oM;have d2:Dg (dW v (X+A) M) (y.co v n*x):=IL K o λw _=>wH oM oM w;have d3:Dg (dW v (X+A) M) (x.co v (n+i)*xk v i*y):=IL E m λw _=>wH oM oM w;have Z:Wr (aZ (y.co v n).l x.l):=(jE d2 (u.mul b) (uw hv (nL _) (nL _) hb) oM).w;have Y:Wr (aZ (x.co v (n+i)*xk v i).l y.l):=(jE d3 (q.mul h) (uw hv (nL _) (nL _) hb) oM).w;rw[YW,G];refine⟨m1,m2,N,Z,Y,y.co v n*x-(x.co v (n+i)*xk v i)*y,?_,rfl,λw J=>?_,?_,?_⟩
 ·rw[Ee,G];rfl
 ·have h1:=d2 w J;have h2:=d3 w J;have h3:=nD w (y.co v n*x) ((x.co v (n+i)*xk v i)*y);omega
 ·obtain⟨D,H,O,W,a3,F⟩:=b;obtain⟨r,j,b1,R,L,I⟩:=h;have S:=(I.co v n).mul F;have k2:=((F.co v (n+i)).mul (TK v i)).mul I;rw[nU,nU,Nat.mul_comm D r,Nat.mul_comm H j]at k2;have g1:=Nat.mul_le_mul R W;have g2:=Nat.mul_le_mul L a3;rw[<-Nat.pow_add]at g1 g2
  have g3:2^(al+B)+2^(al+B)=2^(B+(al+1)):=by rw[(oM:B+(al+1)=(al+B)+1),Nat.pow_succ];omega
  exact⟨r*D,j*H+j*H,Nat.mul_pos b1 O,oM,oM,S.sub k2⟩
 ·have h0:(y.co v n*x-(x.co v (n+i)*xk v i)*y).deg v<=((n+i:Nat):Int)-1:=by
   refine deg_le_of oM λk hk=>?_;rw[co_sub,co_mul_fr (co_fr v n y),(gR:(x.co v (n+i)*xk v i)*y=x.co v (n+i)*(xk v i*y)),co_mul_fr (co_fr v (n+i) x),co_xk,if_pos oM];rcases Nat.eq_or_lt_of_le (oM:n+i<=k)with e|hlt
   ·rw[<-e,(oM:n+i-i=n)];grind
   ·rw[co_above (p:=x) (n:=k) oM,co_above (p:=y) (n:=k-i) oM];grind
  omega
theorem Nf{v n A al M:Nat}{y:MP}(hv:v<4)(p:y.deg v=(n:Int))(m:Dg (dW v A n) y)(o:In al y):∀(i X B:Nat)(x:MP),Dg (dW v X M) x->In B x->n+i<=M+1->x.deg v<((n+i:Nat):Int)->(M+1)*(X+i*A+1)^v<=10000->B+i*(al+1)<7900000000 ->
  MU v n (y.co v n).l y.l i x.l/\∃r:MP,QE v n (y.co v n).l y.l i x.l=r.l/\Dg (dW v (X+i*A) M) r/\In (B+i*(al+1)) r/\r.deg v<(n:Int)/\∃(t:MP)(s:Nat),(y.co v n)^s*x=t*y+r
 | 0,X,B,x,dx,ix,hM,hx,hb,hs=>by
  rw[Nat.zero_mul,Nat.add_zero]at hb hs;rw[Nat.zero_mul,Nat.add_zero,Nat.zero_mul,Nat.add_zero];refine⟨?_,x,rfl,dx,ix,hx,0,0,?_⟩
  ·have k:=dx.len;have e:=uw hv (nL X) (nL M) hb;show x.l.length<=100000000;omega
  ·have b:(y.co v n)^0=1:=gR;rw[b];grind
 | i+1,X,B,x,dx,ix,hM,hx,hb,hs=>by
  have j:X+(i+1)*A=X+A+i*A:=by rw[Nat.add_mul,Nat.one_mul];omega
  have q:B+(i+1)*(al+1)=B+(al+1)+i*(al+1):=by rw[Nat.add_mul,Nat.one_mul];omega
  rw[j]at hb;rw[q]at hs;rw[j,q];obtain⟨m1,D,C,u,H,z,h,d,dz,L,hz⟩:=Vs (i:=i) hv p m o dx ix oM (by rw[Nat.add_assoc];exact hx) (Nat.le_trans (Nat.mul_le_mul_left _ (Nat.pow_le_pow_left oM v)) hb) oM;obtain⟨k,r,e,J,F,K,t,s,I⟩:=Nf hv p m o i (X+A) (B+(al+1)) z dz L oM hz hb hs;have E:M+1<=10000:=Nat.le_trans (Nat.le_mul_of_pos_right _ (Nat.pow_pos oM)) hb;refine⟨⟨oM,m1,D,C,u,H,by rw[h];exact k⟩,r,by rw[QE,h];exact e,J,F,K,t+(y.co v n)^s*(x.co v (n+i)*xk v i),s+1,?_⟩;have b:(y.co v n)^(s+1)=(y.co v n)^s*y.co v n:=gR;rw[b];have G:(y.co v n)^s*y.co v n*x=(y.co v n)^s*z+(y.co v n)^s*(x.co v (n+i)*xk v i)*y:=by rw[d];grind
  rw[G,I];grind
structure V5 (v:Nat) (L:nu) (pb:Nat):Prop where
 q1:(L.M+1)*(L.b1 v+1)<=pb
 qk:∀k,k<L.M+1->2<=k->(k+1)*(L.mu v (L.U k)+1)<=pb
 z:pb+(if v=0 then 0 else pb)<7900000000
 x1:L.br+L.mu v (2*L.M)+L.cz v L.br<7900000000
 x2:L.b1 v+L.cz v L.b<7900000000
 fin:L.bE+L.mu v (2*L.M)<7900000000
 w1:L.mu v (2*L.M)+(L.M+1)<7900000000
theorem OT(G:mE)(v:Nat):QG G [] v []:=⟨[],by show(-1:Int)<=900000;omega,sM,.inl ⟨rfl,rfl⟩,.inl ⟨rfl,rfl⟩⟩
theorem KR(G:mE)(v n:Nat)(p:List aj):Bi G v (n+1) p [] p:=.inl ⟨rfl,rfl⟩
theorem KS{v X B M:Nat}{G:mE}{x:MP}(hv:v<4)(x0:x≠0)(b:Dg (dW v X M) x)(d:In B x)(hb:(M+1)*(X+1)^v<=10000)(s:B+(M+1)<7900000000)(n:Nat):Bi G v (n+2) x.l (1:MP).l (1:MP).l:=by
 obtain⟨k,m⟩:∃k:Nat,x.deg v=k:=⟨(x.deg v).toNat,by have:=deg_pos x0 v;omega⟩;have q:=b.top hv;have d1:Dg (dW v 0 0) (1:MP):=λw _=>by rw[Bw];omega
 obtain⟨p,r,e,-,-,u,-⟩:=Nf (M:=M) (n:=0) hv (Bw v) d1 (In.one 0) (k+1) X B x b d oM oM (by rw[Nat.mul_zero,Nat.add_zero];exact hb) (by rw[Nat.zero_add,nU];omega);have i:r=0:=Classical.byContradiction λh=>by have:=deg_pos h v;omega
 have j:=jE b d (uw hv (nL _) (nL _) hb) oM;have w1:W8 (1:MP).l:=jE d1 (In.one 0) (uw hv (Nat.zero_le X) (Nat.zero_le M) hb) oM;have e1:aD x.l v=k:=m;have es:(aD x.l v-((0:Nat):Int)+1).toNat=k+1:=oM;refine .inr ⟨λh=>one_ne (zero_iff.2 h),j,w1,0,[],Bw v,oM,by rw[es];exact p,?_,KR G v n _⟩;have o:QE v 0 (aR (1:MP).l v ((0:Nat):Int)) (1:MP).l (aD x.l v-((0:Nat):Int)+1).toNat x.l=[]:=by rw[es];exact e.trans (by rw[i];rfl)
 rw[o];exact OT G v
theorem Qs{a:MP}(h:a≠0):nrm (c (hd a))=1:=by have e:c (hd a)*1=c (hd a):=gR;rw[<-e,En (yU h),uj qI]
theorem Vt{v X B:Nat}{G:mE}{r:MP}(j:YV G)(hv:v<4)(b:r≠0)(i:r.deg v<=0)(dr:Dg (dW v X 0) r)(ir:In B r)(hb:(X+1)^v<=10000)(h:B+(if v=0 then 0 else B)<7900000000):QG G r.l v (1:MP).l:=by
 have d:bx (dW v X 0)<=10000:=by rw[Ag hv];omega
 have hc:nz G (aB r.l v) [] (nrm r).l:=by
  have k:=deg_pos b v;have e0:aD r.l v=r.deg v:=rfl
  have e1:aB r.l v=[r.l]:=by unfold aB;rw[(oM:(aD r.l v+1).toNat=1)];show [(r.co v 0).l]=_;rw[G5 i]
  rw[e1];exact⟨_,j _ _ r dr ir d oM,rfl⟩
 have hz:In (if v=0 then 0 else B) (nrm r):=by
  split
  ·rename_i e;subst e;obtain⟨s,rfl⟩:=kL dr.lo0;have h:s≠0:=λe=>b (by rw[e,Cm]);have e:c s*1=c s:=gR;rw[<-e,En h,uj qI];exact In.one 0
  ·exact ir.nrm
 have:=IP (q:=c (hd r)) b hc (si b) dr (ir.hd b) hz d h hv;rwa[Qs b]at this
theorem OU{v pb:Nat}{L:nu}(h:qO v L)(h8:V5 v L pb){G:mE}(hX:Bj (dW v L.E 0) L.bE G)(hN:YV G)
  {p q:MP} (p0:p≠0) (q0:q≠0) (lp:p.lo (v+1)) (lq:q.lo (v+1)) (hp:∀w,w<v->p.deg w<=L.d) (hq:∀w,w<v->q.deg w<=L.d) (ip:In (L.b1 v) p) (iq:In (L.b1 v) q) (hm:p.deg v<=L.M) (hn:q.deg v<=L.M) :
  ∀(n:Nat)(x y:MP)(U:Nat),y.deg v+2<n->Sq v p q x y->x.prim v->y.prim v->x.lo (v+1)->y.lo (v+1)->(∀w,w<v->x.deg w<=((U*L.d:Nat):Int))->(∀w,w<v->y.deg w<=((U*L.d:Nat):Int))->In (L.mu v U) x->In (L.mu v U) y ->
   1<=U->U<=2*L.M->(U=1\/((U:Int)+2*x.deg v=2*(L.M:Int)+2/\y.deg v<x.deg v))->1<=y.deg v->y.deg v<=x.deg v->x.deg v<=L.M->y.deg v<=p.deg v->y.deg v<=q.deg v ->
   ∃s:MP,Bi G v n x.l y.l s.l/\In (L.mu v (2*L.M)) s/\jw s x y
 | 0,x,y,U,hlt,_,_,_,_,_,_,_,_,_,_,_,_,o,_,_,_,_=>by omega
 | n+1,x,y,U,hlt,hS,px,py,lx,ly,dx,dy,ix,iy,hU1,hU2,hUc,hy1,hyx,hxM,hyp,hyq=>by
  have hv:=h.hv;have HG:=oI v oM;have y0:=bZ py;have x0:=bZ px;obtain⟨k,hk⟩:∃k:Nat,x.deg v=k:=⟨(x.deg v).toNat,oM⟩;obtain⟨j,hj⟩:∃j:Nat,y.deg v=j:=⟨(y.deg v).toNat,oM⟩
  have a0:(k-j+1+1)*(U*L.d)<=L.P/\(k-j+1+1)*(L.mu v U+1)<=pb:=by
   rcases hUc with e|⟨e,a8⟩
   ·subst e;have o:=h.p1;have ag:=h8.q1;have m:=Nat.mul_le_mul_right (1*L.d) (oM:k-j+1+1<=L.M+1);have h3:=Nat.mul_le_mul_right (L.mu v 1+1) (oM:k-j+1+1<=L.M+1);have h4:L.mu v 1=L.b1 v:=if_pos rfl;rw[h4]at h3 ⊢;omega
   ·have o:=h.pk k oM oM;have ag:=h8.qk k oM oM;have S:L.U k=U:=by unfold nu.U;omega
    rw[S]at o ag;have m:=Nat.mul_le_mul_right (U*L.d) (oM:k-j+1+1<=k+1);have h3:=Nat.mul_le_mul_right (L.mu v U+1) (oM:k-j+1+1<=k+1);omega
  have hz:=h8.z;have ed:U*L.d+(k-j+1)*(U*L.d)=(k-j+1+1)*(U*L.d):=by rw[Nat.add_one_mul (k-j+1)];omega
  have eb:L.mu v U+(k-j+1)*(L.mu v U+1)+1=(k-j+1+1)*(L.mu v U+1):=by rw[Nat.add_one_mul (k-j+1)];omega
  have a1:(L.M+1)*(U*L.d+(k - j+1)*(U*L.d)+1)^v<=10000:=Nat.le_trans (Nat.mul_le_mul_left _ (Nat.pow_le_pow_left (by have:=a0.1;omega) v)) h.bP;have a5:Dg (dW v (U*L.d) L.M) x:=ui lx dx oM;have aE:Dg (dW v (U*L.d) j) y:=ui ly dy oM;have a9:Dg (dW v (U*L.d) L.M) y:=ui ly dy oM;have N:(L.M+1)*(U*L.d+1)^v<=10000:=Nat.le_trans (Nat.mul_le_mul_left _ (Nat.pow_le_pow_left oM v)) a1;have wx:=jE a5 ix (uw hv (nL _) (nL _) N) oM;have wy:=jE a9 iy (uw hv (nL _) (nL _) N) oM;obtain⟨f1,r,f2,f3,f4,f5,t,s',K⟩:=Nf (M:=L.M) hv hj aE iy (k - j+1) (U*L.d) (L.mu v U) x a5 ix oM oM a1 oM;rw[ed]at f3;replace f4:In ((k - j+1+1)*(L.mu v U+1)) r:=f4.mono oM;have ar:y.co v j=y.lc v:=by unfold MP.lc;rw[hj];rfl
  have b8:aD y.l v=(j:Int):=hj;have ba:aD x.l v=(k:Int):=hk;have es:(aD x.l v-(j:Int)+1).toNat=k-j+1:=oM;have b6:L.M+1<=10000:=Nat.le_trans (Nat.le_mul_of_pos_right _ (Nat.pow_pos oM)) N;have ac:L.mu v U<=L.mu v (2*L.M):=zb h hU1 hU2 (nL _)
  -- one round of the sequence
  have B:∀(t s:List aj),QG G r.l v t->Bi G v n y.l t s->Bi G v (n+1) x.l y.l s:=λt s o m=>by
   refine .inr ⟨λe=>y0 (zero_iff.2 e),wx,wy,j,t,hj,oM,by rw[es];exact f1,?_,m⟩;have S:QE v j (aR y.l v (j:Int)) y.l (aD x.l v-(j:Int)+1).toNat x.l=r.l:=by rw[es];exact f2
   rw[S];exact o
  rw[ar]at K;have Y:=wE hv ly s';have J:=IC (lc_ne y0 v) s';have I:∀d:MP,d.prim v->d∣y->d∣r->d∣x:=λd pd o m=>fA HG hv lx pd Y J (by rw[K];exact dvd_add (dvd_mul_of' o t) m)
  have hrem:∀d:MP,d∣x->d∣y->d∣r:=λd o m=>by
   have S:r=(y.lc v)^s'*x-t*y:=by rw[K];grind
   rw[S];exact dvd_sub (dvd_mul_of' o _) (dvd_mul_of' m _)
  by_cases b:r=0
  ·refine⟨y,B [] y.l (by rw[b];exact OT G v) ?_,iy.mono ac,I y py (dvd_refl y) (by rw[b];exact dvd_zero y),dvd_refl y,λd _ h=>h⟩;obtain⟨n',rfl⟩:∃n',n=n'+1:=⟨n - 1,oM⟩;exact KR G v n' _
  have bc:=deg_pos b v;by_cases a7:r.deg v<=0
  ·obtain⟨n',rfl⟩:∃n',n=n'+2:=⟨n - 2,oM⟩;have au:Dg (dW v L.P 0) r:=ui f3.lo (λw hw=>by have:=f3.low hv w hw;have:=a0.1;omega) a7;have b2:(L.P+1)^v<=10000:=Nat.le_trans (Nat.le_mul_of_pos_left _ oM) h.bP;have b9:=h8.w1;refine⟨1,B (1:MP).l (1:MP).l (Vt hN hv b a7 au (f4.mono a0.2) b2 hz) (KS hv y0 a9 iy N oM n'),In.one _,unit_dvd unit_one x,unit_dvd unit_one y,λd o m=>?_⟩;have hd:=dvd_deg b (hrem d o m) v;exact py d (by show d.deg v<=0;omega) m
  have ay:1<=r.deg v:=oM
  have a2:(k-j+1+1)*(U*L.d)<=L.E/\(k-j+1+1)*(L.mu v U+1)<=L.br:=by
   rcases hUc with e|⟨e,a8⟩
   ·subst e;have o:=h.e1;have m:=Nat.mul_le_mul_right (1*L.d) (oM:k-j+1+1<=L.M);have h3:=Nat.mul_le_mul_right (L.mu v 1+1) (oM:k-j+1+1<=L.M);have h4:L.mu v 1=L.b1 v:=if_pos rfl;rw[h4]at h3 ⊢;omega
   ·have o:=h.ek k oM oM;have S:L.U k=U:=by unfold nu.U;omega
    rw[S]at o;have m:=Nat.mul_le_mul_right (U*L.d) (oM:k-j+1+1<=k);have h3:=Nat.mul_le_mul_right (L.mu v U+1) (oM:k-j+1+1<=k);omega
  have r5:=f3.lo;have ab:∀w,w<v->r.deg w<=L.E:=λw hw=>by have:=f3.low hv w hw;have:=a2.1;omega
  have ad:In L.br r:=f4.mono a2.2;obtain⟨g,c1,c2,c3,c4⟩:=EE h (nL _) hX r5 ab ad;obtain⟨c5,c6⟩:=c4 b;obtain⟨F,D,Z,R⟩:=jA c2 b;have i:=bZ Z;have X:F.lo (v+1):=qK R i D r5;have ax:g.deg v=0:=qp c2.f R;have b4:F.deg v=r.deg v:=by rw[D,deg_mul R i,ax];omega
  have bb:2<=j:=oM;have O:2<=L.U j/\L.U j<=2*L.M:=by unfold nu.U;omega
  have al:((L.U j:Nat):Int)+2*y.deg v=2*(L.M:Int)+2:=by rw[hj];unfold nu.U;omega
  obtain⟨s1,s2,s3,s4⟩:=h.sg (L.U j) oM O.1;have aa:(y.lc v)^s'*x=t*y+g*F:=by rw[<-D];exact K
  obtain⟨m1,m2⟩:=AY hv hS y0 J Y R c2.f aa oM i Z X p0 q0 lp lq hp hq ip iq hm hn hyp hyq oM s1 s2 rfl s3 s4;have b0:L.l2 (L.U j)+L.b1 v+L.xi (L.U j)+L.kap (L.U j)=L.mu v (L.U j):=by rw[nu.mu,if_neg oM]
  rw[b0]at m2;have b5:L.mu v (L.U j)<=L.mu v (2*L.M):=zb h oM O.2 (nL _)
  have a6:In (L.br+L.mu v (L.U j)) F:=by
   have e1:hd r=hd F:=by rw[D,xE R i,c3 R,Rat.one_mul]
   have m:=(ad.hd b).mul m2;rwa[e1,<-si i]at m
  have b7:=h8.x1;have ao:bx (dW v L.E L.M)<=10000:=uw hv (by have:=h.dE.2.2.1;omega) (nL _) h.bP;have oU:Dg (dW v L.E L.M) r:=ui r5 ab oM;have aq:QG G r.l v (nrm F).l:=IP b c1 (D.trans (jC g F)) oU a6 c6 ao oM hv;have a3:nrm F≠0:=MX i;obtain⟨W,a4⟩:=eu i
  have C:∀w,(nrm F).deg w=F.deg w:=λw=>by have o:=dvd_deg i W w;have m:=dvd_deg a3 a4 w;omega
  have aw:=yU i
  have av:Sq v p q y (nrm F):=by refine hS.step y0 J Y (e:=g*c (hd F)) (mul_ne R (zR aw)) (wR c2.f (ow _ v)) (t:=t) ?_ (by rw[C];omega);rw[aa];have o:g*c (hd F)*nrm F=g*(c (hd F)*nrm F):=gR;rw[o,<-si i]
  obtain⟨s,b3,an,H⟩:=OU h h8 hX hN p0 q0 lp lq hp hq ip iq hm hn n y (nrm F) (L.U j) (by rw[C];omega) av py (jT Z W) ly (MZ X)
   (λw hw=>by
    have o:=dy w hw;have m:U*L.d<=L.U j*L.d:=Nat.mul_le_mul_right _ (by rcases hUc with e|⟨e,_⟩<;>omega)
    omega)
   (λw hw=>by rw[C];exact m1 w hw) (iy.mono (zb h hU1 (by rcases hUc with e|⟨e,_⟩<;>omega) O.2)) m2 oM O.2 (.inr ⟨al,by rw[C];omega⟩) (by rw[C];omega) (by rw[C];omega) oM (by rw[C];omega) (by rw[C];omega)
  have ap:g.lo v:=qh (gV b (by rw[D];exact dvd_mul_right _ _) r5) c2.f;refine⟨s,B _ _ aq b3,an,I s (jT py H.l) H.l ?_,H.l,λd o m=>H.u d m (dvd_trans ?_ a4)⟩
  ·rw[D];exact dvd_mul_of' (dvd_trans H.r W) g
  ·exact fA HG hv X (jT py m) ap R (by rw[<-D];exact hrem d o m)
theorem Gz{x y:List Nat}(h:y.length<=x.length):nQ x y=iO fuel x y:=by unfold nQ;rw[if_neg oM]
theorem TL{a b:List aj}{v t:Nat}{x y:List Nat}(h:aD b v<=aD a v)(e:ji a v t=some x)(d:ji b v t=some y):y.length<=x.length:=by rw[BQ e,BQ d];omega
theorem Aj{a b:List aj}{v:Nat}(h:aD b v<=aD a v)(ha:aD a v+1<fuel):∀l,∃m,kY a b v l=some m
 | []=>⟨_,rfl⟩
 | k::l=>by
  have d:=ug (a:=a) (b:=b) (v:=v) ha oM (k::l);rw[kY];rw[kH]at d;split
  ·rename_i x y i e;rw[i,e]at d;simp only at d;split
   ·rename_i hf;rw[if_pos hf,Gz (TL h i e)]at d;exact d
   ·exact Aj h ha l
  ·exact Aj h ha l
theorem xH{v:Nat}(hv:v<4){a b d:MP}(ha:a≠0)(hb:b≠0)(lv:b.deg v<=a.deg v)(i:∀m∈a.l,∀w,m.1.get w<18446744073709551616)(o:∀m∈b.l,∀w,m.1.get w<18446744073709551616)(e:d∣a)(j:d∣b) :
  ∀{l:List Nat}{m:Int},kY a.l b.l v l=some m->d.deg v<=m
 | [],m,h=>by simp only[kY,sJ]at h;have r:=dvd_deg ha e v;have e1:a.deg v=aD a.l v:=rfl;omega
 | k::l,m,h=>by
  rw[kY]at h;split at h
  ·rename_i x y p q;split at h
   ·rename_i hf;rw[Bool.and_eq_true]at hf;rw[<-Gz (TL lv p q)]at h
    cases hs:nQ x y with
    | none=>rw[hs]at h;cases h
    | some n =>
     rw[hs]at h;have h:some ((n:Int)-1)=some m:=h;have h:=Option.some.inj h;have:=Gj hv ha hb i o e j p hf.1 q hf.2 hs;omega
   ·exact xH hv ha hb lv i o e j h
  ·exact xH hv ha hb lv i o e j h
theorem OV{v:Nat}{a b:MP}(h:0<a.deg v\/0<b.deg v)(d:a.lo (v+1))(lb:b.lo (v+1)):∀n,n<=4->v<n->xG a.l b.l n=(v:Int)
 | 0,_,h=>by omega
 | n+1,hn,hv=>by
  rw[xG];have e1:∀w,a.deg w=aD a.l w:=λ_=>rfl;have i:∀w,b.deg w=aD b.l w:=λ_=>rfl;rcases Nat.eq_or_lt_of_le (oM:v<=n)with e|hlt
  ·subst e;rw[e1,i]at h;rw[if_neg oM]
  ·have j:a.deg n<=0:=d n oM oM;have k:b.deg n<=0:=lb n oM oM;rw[e1]at j;rw[i]at k;rw[if_pos oM];exact OV h d lb n oM hlt
theorem KT{a b:MP}(d:a.lo 0)(lb:b.lo 0):∀n,n<=4->xG a.l b.l n=-1
 | 0,_=>rfl
 | n+1,hn=>by have e:a.deg n<=0:=d n oM oM;have h:b.deg n<=0:=lb n oM oM;have e1:a.deg n=aD a.l n:=rfl;have i:b.deg n=aD b.l n:=rfl;rw[xG,if_pos oM];exact KT d lb n oM
theorem OW{v pb:Nat}{L:nu}(h:qO v L)(O:V5 v L pb){G:mE}(W:Bj (dW v L.E 0) L.bE G)(X:YV G)
  {p q:MP} (I:p.prim v) (H:q.prim v) (nq:hd q=1) (dp:Dg (dW v L.d L.M) p) (dq:Dg (dW v L.d L.M) q) (ip:In (L.b1 v) p) (K:In (L.b1 v) q) (i:q.deg v<=p.deg v) (wp:W8 p.l) (wq:W8 q.l) :
  ∃e,kY p.l q.l v [0,1,2]=some e/\∃z:MP,jw z p q/\In (L.mu v (2*L.M)) z/\(e=0/\z=1\/e≠0/\∃N,Bi G v N p.l q.l z.l):=by
 have hv:=h.hv;have C:=bZ I;have r:=bZ H;have J:=dp.top hv;have y:=dq.top hv;have R:=h.fl;have e1:aD p.l v=p.deg v:=rfl;have e2:aD q.l v=q.deg v:=rfl;have x:L.mu v 1=L.b1 v:=if_pos rfl;have a0:L.b1 v<=L.mu v (2*L.M):=by rw[<-x];exact zb h (nL _) (by have:=h.dE.2.2.2;omega) (nL _)
 obtain⟨e,o⟩:=Aj (a:=p.l) (b:=q.l) (v:=v) oM oM [0,1,2];have hex:∀p:MP,W8 p.l->∀m∈p.l,∀w,m.1.get w<18446744073709551616:=λp hp m hm w=>by have:=hp.exps m hm w;omega
 have k:∀d:MP,d∣p->d∣q->d.deg v<=e:=λd s u=>xH hv C r i (hex p wp) (hex q wq) s u o;refine⟨e,o,?_⟩;by_cases j:e=0
 ·exact⟨1,⟨unit_dvd unit_one p,unit_dvd unit_one q,λd s u=>I d (by have:=k d s u;show d.deg v<=0;omega) s⟩,In.one _,.inl ⟨j,rfl⟩⟩
 have S:=deg_pos r v;by_cases D:q.deg v<=0
 ·have n:q.unit:=H q D (dvd_refl q);have hq:q=1:=Ej r n (unit_dvd unit_one q) nq qI;have B:=h.bP;have Y:=h.dE;refine⟨1,xD (.inr n),In.one _,.inr ⟨j,2,?_⟩⟩;rw[hq];exact KS hv C dp ip (Nat.le_trans (Nat.mul_le_mul_left _ (Nat.pow_le_pow_left oM v)) B) (by have:=O.w1;omega) 0
 ·obtain⟨z,z1,Z,z3⟩:=OU h O W X C r dp.lo dq.lo (dp.low hv) (dq.low hv) ip K J y (L.M+3) p q 1 oM .base I H dp.lo dq.lo
   (λw F=>by have:=dp.low hv w F;omega) (λw F=>by have:=dq.low hv w F;omega) (by rw[x];exact ip) (by rw[x];exact K) (nL _) (by have:=h.dE.2.2.2;omega) (.inl rfl) oM i J i (Int.le_refl _)
  exact⟨z,z3,Z,.inr ⟨j,_,z1⟩⟩
theorem OX{d:Nat->Nat}{b k:Nat}{p q:MP}(e:p≠0)(i:q≠0)(h:Dg d (p*q))(ip:In b p)(m:In k q)(n:bx d<=10000)(hb:b+k<7900000000):xA p.l q.l:=by
 refine ul (dp:=λw=>(p.deg w).toNat) (dq:=λw=>(q.deg w).toNat) (λw _=>?_) (λw _=>?_) (d:=d) (λw j=>?_) ip m n hb
 ·show p.deg w<=((p.deg w).toNat:Int);have:=deg_pos e w;omega
 ·show q.deg w<=((q.deg w).toNat:Int);have:=deg_pos i w;omega
 ·have o:=h w j;rw[deg_mul e i]at o;have:=deg_pos e w;have:=deg_pos i w;show(p.deg w).toNat+(q.deg w).toNat<=d w;omega
theorem V6(G:mE):YV (Gy G):=λd b x e h i hb=>.inl ⟨rfl,pQ e h i hb⟩
theorem vM{g z a b:MP}(hz:z.unit)(h:jw (g*z) a b):jw g a b :=
 ⟨dvd_trans (dvd_mul_right _ _) h.l,dvd_trans (dvd_mul_right _ _) h.r,λd i j=>dvd_trans (h.u d i j) (by
  have e:g*1=g:=gR;have:=mul_dvd (dvd_refl g) hz
  rwa[e]at this)⟩
theorem KU{v pb:Nat}{L:nu}(h:qO v L)(h8:V5 v L pb){G:mE}(hX:Bj (dW v L.E 0) L.bE G)(hN:YV G)(aa:Bj (dW v L.E 0) L.bE (Gy G)):Bj (dW v L.d L.M) L.b (Gy G):=λa b da D ia ib=>by
 have hv:=h.hv;have HG:=oI v oM;have S:=h.dE;have a2:=h8.x2;have k:bx (dW v L.d L.M)<=10000:=uw hv oM (nL _) h.bP;have au:L.b<=L.b1 v:=by unfold nu.b1;split<;>omega
 have I:L.b<7900000000:=oM;have a3:L.b<=L.bE:=by unfold nu.bE;omega
 have low0:∀p:MP,Dg (dW v L.d L.M) p->p.deg v<=0->Dg (dW v L.E 0) p:=λp dp hp=>ui dp.lo (λw hw=>by have:=dp.low hv w hw;omega) hp;by_cases a8:a.deg v<=0/\b.deg v<=0
 ·exact aa a b (low0 a da a8.1) (low0 b D a8.2) (ia.mono a3) (ib.mono a3)
 by_cases m:a=0
 ·refine⟨nrm b,.inl ⟨zero_iff.1 m,pQ D ib k I⟩,?_,λC=>jY λh0=>C (by rw[h0,jV])⟩;by_cases hb:b=0
  ·rw[hb,jV,m];exact⟨dvd_refl _,dvd_refl _,λd h _=>h⟩
  ·exact⟨by rw[m];exact dvd_zero _,(eu hb).1,λd _ h=>dvd_trans h (eu hb).2⟩
 have na:a.l≠[]:=λe=>m (zero_iff.2 e);by_cases b0:b=0
 ·exact⟨nrm a,.inr (.inl ⟨na,zero_iff.1 b0,pQ da ia k I⟩),⟨(eu m).1,by rw[b0];exact dvd_zero _,λd h _=>dvd_trans h (eu m).2⟩,λ_=>jY m⟩
 have nb:b.l≠[]:=λe=>b0 (zero_iff.2 e);have wa:=jE da ia k I;have wb:=jE D ib k I;have a7:xG a.l b.l 4=(v:Int):=OV oM da.lo D.lo 4 oM hv;have Y:∀p:MP,Dg (dW v L.d L.M) p->∀w,w<v->p.deg w<=L.E:=λp dp w hw=>by have:=dp.low hv w hw;omega
 obtain⟨x,x1,x2,x3,x4⟩:=EE h S.2.1 hX da.lo (Y a da) ia;obtain⟨y,y1,y2,y3,y4⟩:=EE h S.2.1 hX D.lo (Y b D) ib;obtain⟨x5,x6⟩:=x4 m;obtain⟨y5,y6⟩:=y4 b0;have J:L.cz v L.b<=L.bE:=OE S.2.1;obtain⟨g,aq,hg⟩:=hX x y x5 y5 (x6.mono J) (y6.mono J);obtain⟨p,W,pp,x0⟩:=jA x2 m;obtain⟨q,eq,pq,y0⟩:=jA y2 b0;have p0:=bZ pp;have q0:=bZ pq
 have a6:∀z:MP,v=0->hd z=1->Dg (dW v L.E 0) z->z=1:=λz e j o=>by
  subst e;obtain⟨r,rfl⟩:=kL o.lo0;have hr:r≠0:=λe=>by rw[e,Cm]at j;cases j
  have ab:=wD hr 1;have ad:c r*1=c r:=gR;rw[ad,j,qI,Rat.one_mul]at ab;rw[<-ab,Aw]
 have ip:=wF h m da.lo da ia W (x3 x0) (λe=>a6 x e (x3 x0) x5);have iq:=wF h b0 D.lo D ib eq (y3 y0) (λe=>a6 y e (y3 y0) y5);have al:QG G a.l v (nrm p).l:=IP m x1 (W.trans (jC x p)) da ip x6 k a2 hv;have an:QG G b.l v (nrm q).l:=IP b0 y1 (eq.trans (jC y q)) D iq y6 k a2 hv;obtain⟨X,ag⟩:=eu p0;obtain⟨Z,ap⟩:=eu q0;have dp:Dg (dW v L.d L.M) (nrm p):=(da.dvd m ⟨x,W.trans (jC x p)⟩).dvd p0 X;have dq:Dg (dW v L.d L.M) (nrm q):=(D.dvd b0 ⟨y,eq.trans (jC y q)⟩).dvd q0 Z;have wp:=jE dp ip.nrm k oM;have wq:=jE dq iq.nrm k oM;have a1:=jT pp X;have R:=jT pq Z
 -- in either order
 have a5:∃(s t:MP)(F:Int)(z:MP),(aD (nrm p).l v<aD (nrm q).l v/\s=nrm q/\t=nrm p\/¬aD (nrm p).l v<aD (nrm q).l v/\s=nrm p/\t=nrm q)/\kY s.l t.l v [0,1,2]=some F/\jw z (nrm p) (nrm q)/\In (L.mu v (2*L.M)) z/\(F=0/\z=1\/F≠0/\∃N,Bi G v N s.l t.l z.l):=by
  rcases Int.lt_or_le ((nrm p).deg v) ((nrm q).deg v)with hlt|lv
  ·obtain⟨F,j,z,o,h3,h4⟩:=OW h h8 hX hN R a1 (jY p0) dq dp iq.nrm ip.nrm oM wq wp;exact⟨_,_,F,z,.inl ⟨hlt,rfl,rfl⟩,j,Em o,h3,h4⟩
  ·obtain⟨F,j,z,o,h3,h4⟩:=OW h h8 hX hN a1 R (jY q0) dp dq ip.nrm iq.nrm lv wp wq;exact⟨_,_,F,z,.inr ⟨Int.not_lt.2 lv,rfl,rfl⟩,j,o,h3,h4⟩
 obtain⟨s,t,F,z,s1,s2,s3,s4,s5⟩:=a5;have H:jw z p q:=⟨dvd_trans s3.l X,dvd_trans s3.r Z,λd j o=>s3.u d (dvd_trans j ag) (dvd_trans o ap)⟩;have lp:=qK x0 p0 W da.lo;have lq:=qK y0 q0 eq D.lo;have lx:x.lo v:=qh (gV m (by rw[W];exact dvd_mul_right _ _) da.lo) x2.f;have ly:y.lo v:=qh (gV b0 (by rw[eq];exact dvd_mul_right _ _) D.lo) y2.f
 have B:jw (g*z) a b:=by
  refine⟨by rw[W];exact mul_dvd hg.i.l H.l,by rw[eq];exact mul_dvd hg.i.r H.r,λd j o=>?_⟩;have d0:=dvd_ne m j;obtain⟨e,u,rfl,he,av,a9,lz,_⟩:=kN HG hv (gV m j da.lo) d0;have ac:e.fr v:=he v (nL _) hv;refine mul_dvd (hg.i.u e ?_ ?_) (H.u u ?_ ?_)
  ·exact x2.u e ac (dvd_trans (dvd_mul_right _ _) j)
  ·exact y2.u e ac (dvd_trans (dvd_mul_right _ _) o)
  ·exact fA HG hv lp a9 lx x0 (by rw[<-W];exact dvd_trans (dvd_mul_left _ _) j)
  ·exact fA HG hv lq a9 ly y0 (by rw[<-eq];exact dvd_trans (dvd_mul_left _ _) o)
 have C:=jW B m;have g0:=dvd_ne x0 hg.i.l;have z0:z≠0:=λe=>C (by rw[e];grind);have ar:L.cz v L.b<=L.bE:=J
 have ig:In L.bE g:=by obtain⟨j,o⟩:=Ah h da.lo (Y a da) ia (a.deg v).toNat;have h3:g∣a.lc v:=dvd_trans hg.i.l ((dvd_iff_co x2.f a).1 x2.d _);exact(su h (hg.n g0) (lc_ne m v) h3 j o).2.mono J
 have O:=h8.fin;have K:Dg (dW v L.d L.M) (g*z):=da.dvd m B.l;have dg:Dg (dW v L.d L.M) g:=K.dvd C (dvd_mul_right _ _);have dz:Dg (dW v L.d L.M) z:=K.dvd C (dvd_mul_left _ _);have wz:=jE dz s4 k oM;have a4:qM g.l (nrm g).l:=pQ dg ig k oM
 have key:∃r:MP,NG r a b/\(F=0/\qM g.l r.l\/F≠0/\∃(N:Nat)(z:List aj),Bi G v N s.l t.l z/\z.length<=100000000/\(aD z v<1/\qM g.l r.l\/¬aD z v<1/\xA g.l z/\qM (aZ g.l z) r.l)):=by
  rcases s5 with ⟨j,o⟩|⟨j,N,o⟩
  ·exact⟨nrm g,⟨qd (vM (by rw[o];exact unit_one) B) g0,λ_=>jY g0⟩,.inl ⟨j,a4⟩⟩
  ·by_cases hz:z.deg v<1
   ·have ao:z.unit:=pp z (by show z.deg v<=0;omega) H.l;exact⟨nrm g,⟨qd (vM ao B) g0,λ_=>jY g0⟩,.inr ⟨j,N,z.l,o,wz.w.len,.inl ⟨hz,a4⟩⟩⟩
   ·exact⟨nrm (g*z),⟨qd B C,λ_=>jY C⟩,.inr ⟨j,N,z.l,o,wz.w.len,.inr ⟨hz,OX g0 z0 K ig s4 k O,pQ K (ig.mul s4) k O⟩⟩⟩
 obtain⟨r,hr,hk⟩:=key;refine⟨r,.inr (.inr ⟨na,nb,wa,wb,.inr ⟨v,x.l,y.l,g.l,(nrm p).l,(nrm q).l,s.l,t.l,F,hv,a7,x1,y1,aq,al,an,wp,wq,λe=>bZ a1 (zero_iff.2 e),λe=>bZ R (zero_iff.2 e),?_,s2,hk⟩⟩),hr⟩;rcases s1 with ⟨j,rfl,rfl⟩|⟨j,rfl,rfl⟩
 ·exact .inl ⟨j,rfl,rfl⟩
 ·exact .inr ⟨j,rfl,rfl⟩
theorem Bj.mono{d d':Nat->Nat}{b e:Nat}{G:mE}(h:Bj d b G)(hd:∀w,d' w<=d w)(hb:e<=b):Bj d' e G:=λx y j k l i=>h x y (j.mono hd) (k.mono hd) (l.mono hb) (i.mono hb)
theorem GD{b:Nat}(hb:b<7900000000){d:Nat->Nat}(hd:∀w,w<4->d w=0)(G:mE):Bj d b (Gy G):=λx y k n r q=>by
 have i:bx d<=10000:=by unfold bx;rw[hd 0,hd 1,hd 2,hd 3]<;>omega
 have lo:∀z:MP,Dg d z->z.lo 0:=λz dz w _ o=>by have:=dz w o;rw[hd w o]at this;exact this
 by_cases j:x=0
 ·refine⟨nrm y,.inl ⟨zero_iff.1 j,pQ n q i hb⟩,?_,λm=>jY λh0=>m (by rw[h0,jV])⟩;by_cases hb:y=0
  ·rw[hb,jV,j];exact⟨dvd_refl _,dvd_refl _,λd h _=>h⟩
  ·exact⟨by rw[j];exact dvd_zero _,(eu hb).1,λd _ h=>dvd_trans h (eu hb).2⟩
 have p:x.l≠[]:=λe=>j (zero_iff.2 e);by_cases b0:y=0
 ·exact⟨nrm x,.inr (.inl ⟨p,zero_iff.1 b0,pQ k r i hb⟩),⟨(eu j).1,by rw[b0];exact dvd_zero _,λd h _=>dvd_trans h (eu j).2⟩,λ_=>jY j⟩
 have B:y.l≠[]:=λe=>b0 (zero_iff.2 e);obtain⟨s,es⟩:=kL (lo x k);have u:s≠0:=λe=>j (by rw[es,e,Cm]);refine⟨1,.inr (.inr ⟨p,B,jE k r i hb,jE n q i hb,.inl ⟨by rw[KT (lo x k) (lo y n) 4 oM];omega,pO.symm⟩⟩),xD (.inl (by rw[es];exact zo u)),λ_=>qI⟩
theorem EF{L:Nat->nu}{pb:Nat->Nat}:∀(v:Nat),Zf L v->(∀w,w<=v->V5 w (L w) (pb w))->∀n,Bj (dW v (L v).d (L v).M) (L v).b (qZ (n+v+2))
 | 0,h,h8,n=>by
  have h0:qO 0 (L 0):=h;have hz:∀w,w<4->dW 0 (L 0).E 0 w=0:=λw _=>by unfold dW;rw[if_neg oM];split<;>rfl
  have hb:(L 0).bE<7900000000:=by have:=(h8 0 (nL _)).fin;omega
  exact KU h0 (h8 0 (nL _)) (GD hb hz (qZ n)) (V6 _) (GD hb hz (qZ (n+1)))
 | v+1,h,h8,n=>by
  obtain⟨s,m,q,i,l⟩:=h
  have hd:∀w,dW (v+1) (L (v+1)).E 0 w<=dW v (L v).d (L v).M w:=λw=>by
   unfold dW;by_cases e:w<v
   ·rw[if_pos oM,if_pos e];exact m
   ·by_cases k:w=v
    ·rw[if_pos oM,if_neg e,if_pos k];exact q
    ·rw[if_neg oM,if_neg e,if_neg k];split<;>exact nL _
  have g1:=(EF v l (λw p=>h8 w oM) n).mono hd i;have j:=(EF v l (λw p=>h8 w oM) (n+1)).mono hd i;have e1:n+(v+1)+2=(n+v+2)+1:=oM;have r:n+1+v+2=(n+v+2)+1:=oM;rw[r]at j;rw[e1];have o:n+v+2=(n+v+1)+1:=oM;exact KU s (h8 (v+1) (nL _)) g1 (by rw[o];exact V6 _) j
def YX (v:Nat) (L:nu) (pb:Nat):Bool :=
 decide ((L.M+1)*(L.b1 v+1)<=pb)&&decide (∀k,k<L.M+1->2<=k->(k+1)*(L.mu v (L.U k)+1)<=pb)&&decide (pb+(if v=0 then 0 else pb)<7900000000)&&decide (L.br+L.mu v (2*L.M)+L.cz v L.br<7900000000)&&decide (L.b1 v+L.cz v L.b<7900000000)&&decide (L.bE+L.mu v (2*L.M)<7900000000)&&decide (L.mu v (2*L.M)+(L.M+1)<7900000000)
theorem OY{v pb:Nat}{L:nu}(h:YX v L pb=true):V5 v L pb:=by simp only[YX,Bool.and_eq_true,decide_eq_true_eq]at h;obtain⟨⟨⟨⟨⟨⟨i,d⟩,j⟩,b⟩,k⟩,e⟩,l⟩:=h;exact⟨i,d,j,b,k,e,l⟩
def pb8:Nat->Nat
 | 0=>7200000000
 | _=>1000000
theorem TM{v:Nat}{G:mE}{a g q:MP}{d:Nat->Nat}{b k:Nat}(m:a≠0)(hc:nz G (aB a.l v) [] g.l)(e:a=q*g)
  (ha:Dg d a) (s:In b q) (y:In k g) (u:bx d<=10000) (hb:b+k<7900000000):Gx G a.l v q.l:=by
 have j:q≠0:=λh=>m (by rw[e,h];grind);have i:g≠0:=λh=>m (by rw[e,h];grind)
 have x:∀w,w<4->(q.deg w).toNat+(g.deg w).toNat<=d w:=λw r=>by have n:=ha w r;rw[e,deg_mul j i]at n;have:=deg_pos j w;have:=deg_pos i w;omega
 obtain⟨t,l,o⟩:=je i;obtain⟨n,p⟩:=IM o (dq:=λw=>(q.deg w).toNat) (dz:=λw=>(g.deg w).toNat) (λw _=>by show q.deg w<=((q.deg w).toNat:Int);have:=deg_pos j w;omega) (λw _=>by show g.deg w<=((g.deg w).toNat:Int);have:=deg_pos i w;omega) x s y u hb;exact .inr ⟨λh=>m (zero_iff.2 h),t,l,q.l.length,by rw[<-o];exact hc,n,by rw[e];exact p⟩
def L6:Nat->nu
 | 0=>YM 0 144 144 133353 1513728 1402101226 1534752
 | _=>YM 1 6 6 1420 144 130617 192
theorem ZH:qO 0 (L6 0):=TB dK
theorem ZI:qO 1 (L6 1):=TB dK
theorem V7:Zf L6 1:=⟨ZI,dK,dK,dK,ZH⟩
def D6:Nat->Nat:=dW 1 6 6
def ZJ:Nat->Nat
 | 0=>1421572070
 | _=>174152
theorem Z7:∀w,w<=1->V5 w (L6 w) (ZJ w):=λw d=>by
 have h0:V5 0 (L6 0) (ZJ 0):=OY dK;have b:V5 1 (L6 1) (ZJ 1):=OY dK;rcases w with _|_|w
 ·exact h0
 ·exact b
 ·omega
theorem TN{a b:MP}(da:Dg D6 a)(j:Dg D6 b)(k:In 1420 a)(h:In 1420 b):∃g:MP,uz 6 a.l b.l=some g.l/\qZ 6 a.l b.l g.l/\NG g a b:=by obtain⟨r,i⟩:=M9 1 V7 3 a b da j k h;obtain⟨g,rfl,hg⟩:=ze 6 a b r i;obtain⟨m,d,e⟩:=EF 1 V7 Z7 3 a b da j k h;obtain rfl:=e.eq hg;exact⟨m,i,d,hg⟩
theorem XI:bx D6=49:=dK
theorem AZ:qN D6 2<=2^102:=dK
theorem Xz:qN (λw=>D6 w+D6 w) 2<=2^248:=dK
theorem IQ:D6 0=6/\D6 1=6/\D6 2=0/\D6 3=0:=dM
theorem A7{p:MP}(h:Dg D6 p):p.lo 2:=h.lo
theorem V8:∀(l:List (List aj))(b:MP),(∀c∈l,∃f:MP,f.l=c/\Dg D6 f/\In 12 f)->(b=0\/(hd b=1/\∃F:MP,F≠0/\b∣F/\Dg D6 F/\In 12 F)) ->
  (∃r,vB (uz 6) b.l l=some r)/\∃g:MP,nz (qZ 6) l b.l g.l/\g∣b/\(∀f:MP,f.l∈l->g∣f)/\(∀d,d∣b->(∀f:MP,f.l∈l->d∣f)->d∣g)/\(g≠0->hd g=1)
 | [],b,_,ha=>⟨⟨_,rfl⟩,b,rfl,dvd_refl _,λf hf=>(by cases hf),λd h _=>h,λh0=>ha.elim (λe=>absurd e h0) λe=>e.1⟩
 | c::l,b,hl,ha=>by
  obtain⟨f,rfl,z,hf⟩:=hl c sM
  have j:Dg D6 b/\In 1420 b:=by
   rcases ha with e|⟨y,F,q,o,p,G⟩
   ·rw[e];exact⟨λw _=>by rw[deg_zero];omega,In.zero _⟩
   ·have:=(G.fac oM q o (A7 p) p AZ).mono (c:=1420) oM;rw[uj y]at this;exact⟨p.dvd q o,this⟩
  obtain⟨g,H,s,hg⟩:=TN j.1 z j.2 (hf.mono oM)
  obtain⟨⟨r,E⟩,k,e,B,k2,I,C⟩:=V8 l g (λc hc=>hl c (by simp[hc])) (by
   by_cases x:g=0
   ·exact .inl x
   ·refine .inr ⟨hg.n x,?_⟩;by_cases f0:f=0
    ·rcases ha with e|⟨-,F,q,o,p⟩
     ·exact absurd (zero_dvd (hg.i.u 0 (by rw[e];exact dvd_refl 0) (by rw[f0];exact dvd_refl 0))) x
     ·exact⟨F,q,dvd_trans hg.i.l o,p⟩
    ·exact⟨f,f0,hg.i.r,z,hf⟩)
  refine⟨?_,k,⟨g.l,s,e⟩,dvd_trans B hg.i.l,λD m=>?_,λd y o=>I d (hg.i.u d y (o f sM)) λf hf=>o f (by simp[hf]),C⟩
  ·rw[vB,H];simp only;split
   ·exact⟨_,rfl⟩
   ·exact⟨r,E⟩
  rcases List.mem_cons.1 m with e|m
  ·rw[MP.eq_of e];exact dvd_trans B hg.i.r
  ·exact k2 D m
theorem YY{v:Nat}{a:MP}(hv:v<4)(da:Dg D6 a)(o:In 12 a):∃g:MP,ni (uz 6) a.l v=some g.l/\nz (qZ 6) (aB a.l v) [] g.l/\NC v g a:=by
 have m:∀c∈aB a.l v,∃f:MP,f.l=c/\Dg D6 f/\In 12 f:=λc hc=>by obtain⟨n,e⟩:=fH hc;exact⟨a.co v n,e.symm,YP da hv n,o.co v n⟩
 obtain⟨⟨r,h⟩,g,j,-,k,p,q⟩:=V8 (aB a.l v) 0 m (.inl rfl);obtain⟨i,rfl,d,b⟩:=qJ (ze 6) (a:=a) (v:=v) h;have e:i=g:=NC.eqq ⟨d,b⟩ ⟨OQ k p,q⟩;subst e;exact⟨i,h,j,d,b⟩
theorem YZ{v:Nat}{a:MP}(hv:v<4)(da:Dg D6 a)(n:In 12 a)(h:a≠0):∃p:MP,lN (uz 6) a.l v=some p.l/\Gx (qZ 6) a.l v p.l/\p.prim v/\Dg D6 p/\In 126 p/\∃g,a=g*p/\hd g=1/\g.fr v:=by
 obtain⟨k,e1,s,e⟩:=YY hv da n;have k0:=dvd_ne h e.1.d;have j:bx D6<=10000:=by rw[XI];omega
 obtain⟨p,o,r,-⟩:=jA e.1 h;have b:a=p*k:=o.trans (jC k p);have ip:In 126 p:=(n.quot oM h b (e.2 k0) (A7 da) da AZ).mono oM
 have q:In 114 k:=by have:=n.fac oM h e.1.d (A7 da) da AZ;rwa[uj (e.2 k0)]at this
 have dp:Dg D6 p:=da.dvd h ⟨k,b⟩;have i:=oF k0 b da j ip q (by rw[uq];omega)
 have m:lN (uz 6) a.l v=some p.l:=by obtain⟨t,l,el⟩:=je h;rw[el]at i e1 ⊢;rw[lN];simp only[e1];exact i
 exact⟨p,m,TM h s b da ip q j oM,r,dp,ip,k,o,e.2 k0,e.1.f⟩
end Q
end
section
namespace Q
open Go Go.RowKit Go.Proofs.YtopclbeomcggiaaGreat
def V9 (v:Nat) (t:aj):aj:=(t.1.put v (t.1.get v-1),t.2*(t.1.get v:Rat))
theorem KV(t:aj)(l:List aj)(e:Ex):cf (t::l) e=(if t.1=e then t.2 else 0)+cf l e:=by show t.2*(if t.1=e then 1 else 0)+cf l e=_;split<;>grind
theorem Ak(v:Nat):∀{p:List aj},bQ p->canon (p.map (V9 v))=aS p v:=λ{p} h=>by
 rw[<-BV (h.pder v)];refine uA λe he=>?_;have d:=h.nat;clear h
 induction p with
 | nil=>rfl
 | cons t p b =>
  have b:=b d.tail;have h0:=Ex.nat_get d.head v;unfold aS at b ⊢;rw[List.map_cons,KV,b];by_cases hz:0<t.1.get v
  ·rw[List.filter_cons_of_pos (by simpa using hz),List.map_cons,KV];rfl
  ·rw[List.filter_cons_of_neg (by simpa using hz)];have i:t.1.get v=0:=oM;have:(V9 v t).2=0:=by show t.2*(t.1.get v:Rat)=0;rw[i];show t.2*((0:Int):Rat)=0;rw[Rat.intCast_zero,Rat.mul_zero]
   rw[this];split<;>grind
theorem TP{n:Nat}(h:n<=900000):Rs ((n:Int):Rat):=by refine ve (s:=⟨1,900000,0,1⟩) dK (Dv.int 1 (n:Int)) ?_;rw[rabs_int];exact Rat.natCast_le_natCast.2 (by show(n:Int).natAbs<=900000;omega)
theorem Vu:Rs 0:=TP (n:=0) oM
theorem GG{p:List aj}(v k:Nat):(aS (p.take k) v).Sublist (aS p v):=((List.take_sublist k p).filter _).map _
end Q
namespace Go.Proofs.YtopclbeomcggiaaGreat
open Go.RowKit Q Go.WideMaps Go.Maps
theorem XA(v:Value)(l:List aj)(w:World)(h:ai w v l)(x:l.length<=100000000)(n:∀t∈l,Rs t.2)(p:∀k,∀t∈canon (l.take k),Rs t.2)(j:∀k,(canon (l.take k)).length<=100000000):Calls Tryz.prog 43 #[v] w (aP w (canon l)):=by
 obtain⟨ap,cp,rfl,z⟩:=h.shape;replace n:=zH n;replace p:=zH p;replace j:=zH j
 go_enter Tryz.func43,Tryz.ntmps43
 go_wp2;have hb0:Below w.heap.size w (w.alloc (.cells #[] aJ)):=(Below.refl _ _).alloc (nL _) _;have m:ai (w.alloc (.cells #[] aJ)) (.slice (some ⟨w.heap.size,0,none⟩) 0 0) []:=(fQ aL w).isSl;change Below w.heap.size w (w.alloc (.cells #[] 43))at hb0;change ai (w.alloc (.cells #[] 43)) _ _ at m
 go_loopw [3,4] (λo i wr=>∃k:Nat,k<=l.length/\i=.int .i64 k/\Hid (ai wr o (canon (l.take k)))/\Below w.heap.size w wr) (λ_ i _=>l.length-(intOf i).toNat)
 case atStart=>exact⟨0,oM,rfl,zH m,hb0⟩
 case round =>
  clear m hb0;obtain⟨k,B,rfl,hP,b⟩:=hrel;by_cases r:k<l.length
  ·have d:l[k]?=some l[k]:=gE r;generalize l[k]=t at d;obtain⟨y,op,s,rfl,-,hE,hC⟩:=(h.on b).get d;change bL aJ wr y (op+k*8) _ at hC;have u:(k:Int)<l.length:=oM;have hr:=hC.range;have h8:s.length=8:=aL.len hE;have q:=Dh u3 (canon (l.take k)) s t wr hP.out hE (p.out k) (n.out t (List.mem_of_getElem? d)) (j.out k);rw[<-Di d]at q
   go_wp2_with (first
    | (refine ak rfl _ _ 26 rfl aJ Tryz.underlying26 _ 8 96 kM _ _ _ rfl .i64 _ rfl k rfl r y op rfl ?_)
    | (refine wpList_load_mid rfl 43 _ rfl _ _ rfl _ _ hr Tryz.underlying43 rfl (by rw[h8];kernel_rfl) ?_)
    | (go_at_call 82;refine q.mono ?_;rintro en w3 ⟨v3,rfl,hv3,hb3⟩))
   go_roundw
   case rel=>exact⟨k+1,oM,nM,zH hv3,b.trans (hb3.mono b.size)⟩
   case measure=>simp[intOf];omega
  ·obtain rfl:k=l.length:=oM;rw[tL (nL _)]at hP;go_wp2;go_ret;exact⟨_,rfl,hP.out,b⟩
theorem um(vp:Value)(p:List aj)(v:Nat)(w:World)(hp:ai w vp p)(hv:v<4)(kp:W8 p)(kd:Wr (aS p v)):Calls Tryz.prog 32 #[vp,.int .i64 v] w (aP w (aS p v)):=by
 obtain⟨ap,cp,rfl,al⟩:=hp.shape
 have X:=zH (λW u (hu:ai W u (p.map (V9 v)))=>Ak v kp.w.v▸XA u (p.map (V9 v)) W hu (by rw[List.length_map];exact kp.w.len) (λt M=>by
  obtain⟨s,hs,rfl⟩:=List.mem_map.1 M;have h0:=kp.exps s hs v;by_cases hz:0<s.1.get v
  ·exact kd.rs _ (List.mem_map.2 ⟨s,List.mem_filter.2 ⟨hs,by simpa using hz⟩,rfl⟩)
  ·have hx:s.1.get v=0:=oM;show Rs (s.2*(s.1.get v:Rat));rw[hx]
   show Rs (s.2*((0:Int):Rat));rw[Rat.intCast_zero,Rat.mul_zero];exact Vu) (λk t M=>by
  rw[<-List.map_take,Ak v (kp.w.v.sublist (List.take_sublist k p))]at M
  exact kd.rs t ((GG v k).subset M)) (λk=>by
  rw[<-List.map_take,Ak v (kp.w.v.sublist (List.take_sublist k p))]
  exact Nat.le_trans (GG v k).length_le kd.len))
 have ac:=kp.w.len;have a8:=zH kp.w.rs;have hex:=zH (λt M=>kp.exps t M v);have hv4:(v:Int)<4:=oM;clear kp kd
 go_enter Tryz.func32,Tryz.ntmps32
 go_wp2;have hb0:Below w.heap.size w (w.alloc (.cells #[] aJ)):=(Below.refl _ _).alloc (nL _) _;have I:bR w.heap.size (w.alloc (.cells #[] aJ)) (.slice (some ⟨w.heap.size,0,none⟩) 0 0) []:=fQ aL w;change Below w.heap.size w (w.alloc (.cells #[] 43))at hb0;change bR w.heap.size (w.alloc (.cells #[] 43)) _ _ at I;replace hp:=zH hp
 go_loopw [5,6] (λo i wr=>∃k:Nat,k<=p.length/\i=.int .i64 k/\Hid (bR w.heap.size wr o ((p.take k).map (V9 v)))/\Below w.heap.size w wr) (λ_ i _=>p.length-(intOf i).toNat)
 case atStart=>exact⟨0,oM,rfl,zH I,hb0⟩
 case round =>
  clear I hb0;obtain⟨k,hk,rfl,b,hb⟩:=hrel;by_cases N:k<p.length
  ·clear X;have C:p[k]?=some p[k]:=gE N;obtain⟨a9,Y,cs,rfl,-,hE,hC⟩:=(hp.out.on hb).get C;generalize p[k]=t at C hE;have d:=yC (V9 v) C;obtain⟨e,q⟩:=t;obtain⟨r,rfl,n1,x1,k1,d1,n2,x2,k2,d2,rfl,i1,i2⟩:=hE;have hr:=hC.range;have ad:(k:Int)<p.length:=oM;have l:=List.mem_of_getElem? C;have F:=zH (show bO wr (.agg #[.bool n1,.slice x1 k1 d1,.bool n2,.slice x2 k2 d2]) q from⟨n1,x1,k1,d1,n2,x2,k2,d2,rfl,i1,i2⟩);have a0:=a8.out _ l;have aa:=hex.out _ l;simp only at a0 aa d
   have a2:Rs ((Ex.get e v:Int):Rat):=by obtain⟨n,hn⟩:∃n:Nat,Ex.get e v=n:=⟨(Ex.get e v).toNat,oM⟩;rw[hn];exact TP oM
   have hd:V9 v (e,q)=(e.put v (e.get v - 1),q*((e.get v:Int):Rat)):=rfl;rw[hd]at d;have D:=oK e v hv;have m:=tH e v hv (Ex.get e v - 1);have a4:Ex.get e v=Ex.get e v:=rfl;generalize hE':Ex.put e v (Ex.get e v - 1)=E' at *;generalize hx:Ex.get e v=x at *;clear hC i1 i2 hE' hx a4 hd l;replace d:=zH d;obtain⟨e1,e2,e3,e4⟩:=e;simp only[bD,List.cons_append,List.nil_append]at hr D m
   go_upto_region 6 with (first
    | (refine ak rfl _ _ 27 rfl aJ Tryz.underlying27 _ 8 96 kM _ _ _ rfl .i64 _ rfl k rfl N a9 Y rfl ?_)
    | (refine wpList_load_mid rfl 43 _ rfl _ _ rfl _ _ hr Tryz.underlying43 rfl kM ?_))
   refine jg λW2 hb2 B hsz2=>?_;have hown2:=zH (b.out.on hb2);have G:=b.out.base_le;have hbW2:=hb.trans (hb2.mono hb.size);have hrat2:=F.out.on hb2;have S:w.heap.size<=wr.heap.size:=hb.size;have a7:∀g,u5.ownBlock=some g->g<wr.heap.size:=λg hg=>(G g hg).2;have z:∀g,u5.ownBlock=some g->w.heap.size<=g:=λg hg=>(G g hg).1;clear hb2 b hr F hb hsz2 G;generalize wr.heap.size=r at *;have f1:∀W',Below W2.heap.size W2 W'->W'.cell? ⟨r,v,none⟩=some (.int .i64 x):=λW' h=>(B.on h).at1 v _ (D [.bool n1,.slice x1 k1 d1,.bool n2,.slice x2 k2 d2]);have a1:IntKind.i64.wrap (x-1)=x-1:=lI oM;have J:u5.ownBlock≠some r:=λh=>by have:=a7 r h;simp at this
   refine aC mixed (none) (0) (fM.none) [.eq (.pointer (some ⟨r,4,none⟩)),.eq (.agg #[.bool n1,.slice x1 k1 d1,.bool n2,.slice x2 k2 d2]),.eq (.int .i64 v),.eq (.pointer (some ⟨r,0,none⟩)),.eq (.pointer (some ⟨r,v,none⟩)),.eq (.int .i64 x),.rat dM ((x:Rat)),.rat dM ((q*(x:Rat))),.eq (.pointer (some ⟨r,4,none⟩))] [19,20,21,22,23,24,25,26,27] rfl rfl rfl rfl ⟨λA _ hA _ _ _=>have h7:A.eval (.tmp 7)=.pointer (some ⟨r,0,none⟩):=hA 7 rfl;pZ rfl,λA _ _ hL _ he=>have hb:=hL.below;have h19:=eT 19 (he.1 rfl);have c0:=((B).on hb).at1 4 _ rfl;have c1:=((B).on hb).at1 5 _ rfl;have c2:=((B).on hb).at1 6 _ rfl;have c3:=((B).on hb).at1 7 _ rfl;pZ rfl,λ_ _ a _ _ _=>xM rfl (a 1 rfl),λA _ hA _ _ _=>have h7:A.eval (.tmp 7)=.pointer (some ⟨r,0,none⟩):=hA 7 rfl;pZ rfl,λA _ _ _ _ he=>have h22:=eT 22 (he.1 rfl);have h21:=eT 21 (he.2.1 rfl);pZ rfl,?_,λA _ _ _ hS he=>have hb:=hS rfl;have h24:=eT 24 (he.1 rfl);have hf0:=eF A 24;cP (f:=24) (args:=#[.int .i64 x]) (gF _ _ oM oM),?_,λA _ hA _ _ _=>have h7:A.eval (.tmp 7)=.pointer (some ⟨r,0,none⟩):=hA 7 rfl;pZ rfl,trivial⟩ ?_
   ·intro A w1 hA hL hS he;have h23:=eT 23 (he.1 rfl);refine ae rfl ?_;have c0:=f1 w1 hL.below;exact aA rfl rfl gZ
   ·intro A w1 hA hL hS he;have hb:=hS rfl;have h20:=eT 20 (he.1 rfl);obtain⟨v25,h25,f25⟩:=fT 25 (he.2.1 rfl);have hf0:=eF A 75;exact cP (f:=75) (args:=#[.agg #[.bool n1,.slice x1 k1 d1,.bool n2,.slice x2 k2 d2],v25]) (JN _ _ _ _ _ (hrat2.on hb) f25 a0 a2)
   ·intro W4 hL4;have hb4:=hL4.below;simp only[aU,af.eq,af.rat,af.of,lZ];rintro v25 h25 v26 h26;obtain⟨n5,a5,k5,c5,n6,a6,k6,c6,rfl⟩:=fF h26;go_frame;have hown4:=hown2.out.on hb4;have B4:=B.on hb4;have hbW4:=hbW2.trans (hb4.mono hbW2.size);clear hown2 B hL4 hb4 h25 hrat2 f1
    go_upto_region 7 with (refine kF rfl _ (.tmp 27) (.tmp 26) rfl r 4 aJ _ _ rfl rfl B4 sM dD dH ?_;intro W5 R5 hl5)
    change Blk W5 r aJ (bD (e1,e2,e3,e4)++[.bool n5,.slice a5 k5 c5,.bool n6,.slice a6 k6 c6])at R5;have hown5:=hown4.lr hl5 (aV dM) (.inr J);have h265:=h26.lr hl5 dM;have hbW5:=hbW4.trans (hl5.belowAt hbW4.size (λk hk=>by cases hk;exact S));clear hown4 B4 hl5 hbW4 h26;have z':=R5.at1 v _ (D [.bool n5,.slice a5 k5 c5,.bool n6,.slice a6 k6 c6]);have hf:=R5.frozen v
    go_upto_region 8 with (fail)
    have hl6:=aY (j:=v) R5 (.int .i64 (x - 1));have R6:=R5.set v (.int .i64 (x - 1));have hset3:=m [.bool n5,.slice a5 k5 c5,.bool n6,.slice a6 k6 c6];simp only[bD,List.cons_append,List.nil_append]at hset3 R6;rw[hset3]at R6;have hown6:=hown5.lr hl6 (aV dM) (.inr J);have h266:=h265.lr hl6 dM;have hbW6:=hbW5.trans (hl6.belowAt hbW5.size (λk hk=>by cases hk;exact S));obtain⟨g1,g2,g3,g4⟩:=E';generalize W5.setCell ⟨r,v,none⟩ (.int .i64 (x - 1))=W6 at *;clear hl6 hset3 m z' hf a1 hown5 h265 R5 hbW5 D;have Z:some r≠u5.ownBlock:=λh=>J h.symm;obtain⟨L,y⟩:∃L,L=[Value.bool n5,.slice a5 k5 c5,.bool n6,.slice a6 k6 c6]:=⟨_,rfl⟩;have ab:L.length=4:=by rw[y];rfl
    have h8:(bD (g1,g2,g3,g4)++L).length=8:=by rw[List.length_append,ab];rfl
    rw[show(Value.agg #[.bool n5,.slice a5 k5 c5,.bool n6,.slice a6 k6 c6])=.agg L.toArray by rw[y]]at h266;change Blk W6 r aJ (bD (g1,g2,g3,g4)++[.bool n5,.slice a5 k5 c5,.bool n6,.slice a6 k6 c6])at R6;rw[<-y]at R6;refine aN trivial (u5.ownBlock) (aJ) (hown6.okr) [.eq (u5),.eq (.agg (bD (g1,g2,g3,g4)++L).toArray),.new1 aL fw (((g1,g2,g3,g4),q*(x:Rat))),.row aL (w.heap.size) W6.heap.size ((p.take k).map (V9 v)++[((g1,g2,g3,g4),q*(x:Rat))])] [35,36,37,38] rfl rfl rfl rfl ⟨λ_ _ a _ _ _=>xM rfl (a 5 rfl),λ_ _ a hL _ _=>pL rfl ((R6.lr hL Z).range 0 _ (λj v h=>by rw[Nat.zero_add];exact h)) Tryz.underlying43 (h8) (a 7 rfl),?_,?_,trivial⟩ ?_
    ·intro A w1 hA hL hS he;have h36:=eT 36 (he.1 rfl);refine ae rfl ?_;have hE:(aL:El _).E w1 _ (((g1,g2,g3,g4),q*(x:Rat))):=⟨_,rfl,(h266.lr hL dM).cellsC⟩;refine fo rfl rfl ((hown6.okr).lr hL) hE (bu rfl ?_) (λ_ _ h=>h);simp only[List.map_toArray,List.map_cons,List.map_nil,h36];exact uo _ _ ((aL).len hE)
    ·intro A w1 hA hL hS he;have hb:=hS rfl;have a3:Below w.heap.size w w1:=hbW6.trans (hL.belowAt hbW6.size z);have h35:=eT 35 (he.1 rfl);obtain⟨v37,h37,f37⟩:=fT 37 (he.2.1 rfl);exact ae rfl (dJ rfl rfl rfl Tryz.underlying26 bG h35 h37 (hown6.on hb) rfl rfl (dU f37) (by simp;omega) (a3.size) hL.1.size (λ_ _ h1 h2=>⟨h1,h2⟩))
    ·intro W7 hL7;simp only[aU,af.eq,af.new1,af.row,af.asPure,af.of,af.fragile,lZ];rintro v37 - v38 ⟨hown7,ag⟩;go_frame;have hbW7:=hbW6.trans (hL7.belowAt hbW6.size z);go_wp2;go_roundw
     case measure=>simp[intOf];omega
     case rel=>exact⟨k+1,oM,nM,zH (by rw[d.out];exact hown7),hbW7⟩
  ·obtain rfl:k=p.length:=oM;rw[tL (nL _)]at b;have hS:=b.out.isSl;clear b
   go_wp2_with (go_at_call 43;refine(X.out _ _ hS).mono ?_;rintro en w3 ⟨v3,rfl,hv3,hb3⟩)
   go_ret;exact⟨_,rfl,hv3,hb.trans (hb3.mono hb.size)⟩
end Go.Proofs.YtopclbeomcggiaaGreat
end
section
namespace Q
open Go Go.RowKit Go.Proofs.YtopclbeomcggiaaGreat
def GH (a g q:List aj):Prop:=∃t l n,g=t::l/\Wr (t::l)/\wL (t::l) t n a [] (some q)
def KW (G:mE) (v:Nat):Nat->Nat->List aj->List aj->List (List aj × Nat)->List (List aj × Nat)->Prop
 | 0,_,_,_,_,_=>False
 | f+1,n,x,y,out,R=>x.length<=100000000/\(¬0<aD x v/\R=out\/0<aD x v/\W8 x/\Wr y/\Wr (aS x v) /\
   ∃g x' y',G x (gp y (aS x v)) g/\g.length<=100000000/\GH x g x'/\GH (gp y (aS x v)) g y'/\KW G v f (n+1) x' y' (if 0<aD g v then out++[(g,n)]else out) R)
def Y0 (G:mE) (a:List aj) (v:Nat) (R:List (List aj × Nat)):Prop:=∃p,Gx G a v p/\p.length<=100000000/\(aD p v<1/\R=[]\/¬aD p v<1/\W8 p/\Wr (aS p v) /\
 ∃g w0 y0 f,G p (aS p v) g/\GH p g w0/\GH (aS p v) g y0/\f<=10000000/\KW G v f 1 w0 y0 [] R)
end Q
namespace Go.Proofs.YtopclbeomcggiaaGreat
open Go.RowKit Q
theorem IR{b d:Value}{a g q:List aj}{w:World}(ha:ai w b a)(hb:ai w d g)(h:GH a g q):Calls Tryz.prog 64 #[b,d] w (aP w q):=by obtain⟨t,l,n,rfl,k,hd⟩:=h;exact Gw b d a l q t n w ha hb k hd
theorem Bl{G:mE}(HG:EC G)(va:Value)(a:List aj)(R:List (List aj × Nat))(v:Nat)(w:World)(ha:ai w va a)(hv:v<4)(a4:aD a v<=900000)(la:a.length<=100000000)(h:Y0 G a v R) :
  Calls Tryz.prog 31 #[va,.int .i64 v] w (Ea w R):=by
 obtain⟨p,hp,lp,hex⟩:=h;have J:=zH (λW (hb:Below w.heap.size w W)=>kZ HG va a p v W (ha.on hb) hv a4 la hp);have D:=zH (λW u (hu:ai W u p)=>gK u p v W hu hv lp);obtain⟨dp,hdp2⟩:∃dp,dp=aD p v:=⟨_,rfl⟩;rw[<-hdp2]at D hex;have b:Below w.heap.size w (w.alloc (.cells #[] AU.T)):=(Below.refl _ _).alloc (nL _) _;have j:zY w.heap.size (w.alloc (.cells #[] AU.T)) (.slice (some ⟨w.heap.size,0,none⟩) 0 0) []:=fQ AU w;change Below w.heap.size w (w.alloc (.cells #[] 54))at b;change zY w.heap.size (w.alloc (.cells #[] 54)) _ _ at j;clear hp hdp2;rcases hex with ⟨hd1,rfl⟩|⟨hd1,kp,N,g,w0,y0,f0,hg,hw,L,hf0,h⟩
 ·replace j:=zH j
  go_enter Tryz.func31,Tryz.ntmps31
  go_wp2_with (first
   | (go_at_call 21;refine(J.out _ b).mono ?_;rintro en w3 ⟨v3,rfl,h3,hb3⟩)
   | (go_at_call 27;refine(D.out _ _ h3).mono ?_;rintro en w4 ⟨rfl,hb4⟩))
  go_ret;have hb34:=hb3.trans (hb4.mono hb3.size);exact⟨_,rfl,(j.out.on hb34).isSl,b.trans (hb34.mono b.size)⟩
 ·have q:=zH (λW u (hu:ai W u p)=>um u p v W hu hv kp N);generalize aS p v=d at *;have r:=zH (λW u1 u2 (h1:ai W u1 p) (h2:ai W u2 d)=>HG u1 u2 p d g W h1 h2 hg);have m:=zH (λW u1 u2 (h1:ai W u1 p) (h2:ai W u2 g)=>IR (w:=W) h1 h2 hw);have s:=zH (λW u1 u2 (h1:ai W u1 d) (h2:ai W u2 g)=>IR (w:=W) h1 h2 L);have hF9:1+f0<=10000001:=oM;replace h:=zH h;clear hf0 hg hw L kp N
  go_enter Tryz.func31,Tryz.ntmps31
  go_upto_region 5 with (first
   | (go_at_call 21;refine(J.out _ b).mono ?_;rintro en w3 ⟨v3,rfl,h3,hb3⟩)
   | (go_at_call 27;refine(D.out _ _ h3).mono ?_;rintro en w4 ⟨rfl,hb4⟩;have h34:=h3.on hb4)
   | (go_at_call 32;refine(q.out _ _ h34).mono ?_;rintro en w5 ⟨v5,rfl,h5,hb5⟩))
  have h35:=h34.on hb5;have hb35:=(hb3.trans (hb4.mono hb3.size)).trans (hb5.mono (hb3.trans (hb4.mono hb3.size)).size);have hb05:=b.trans (hb35.mono b.size);have ho5:=j.on hb35;have hgc2:=zH (r.out _ _ _ h35 h5);clear hb3 hb4 hb5 h34 h3 J q D r hd1 hb35 j b
  go_upto_region 6 with (go_at_call 17;refine hgc2.out.mono ?_;rintro en w6 ⟨v6,rfl,h6,hb6⟩)
  have how2:=zH (m.out _ _ _ (h35.on hb6) h6);have hoy2:=zH (λW (hb:Below w6.heap.size w6 W)=>s.out W _ _ ((h5.on hb6).on hb) (h6.on hb));clear m s h35 h5 hgc2
  go_upto_region 7 with (first
   | (go_at_call 64;refine(hoy2.out w7 hb7).mono ?_;rintro en w8 ⟨v8,rfl,h8,hb8⟩)
   | (go_at_call 64;refine how2.out.mono ?_;rintro en w7 ⟨v7,rfl,h7,hb7⟩))
  have hb68:=hb6.trans ((hb7.trans (hb8.mono hb7.size)).mono hb6.size);have hb08:=hb05.trans (hb68.mono hb05.size);have ho8:=zH (ho5.on hb68);have h78:=zH (h7.on hb8);replace h8:=zH h8;clear how2 hoy2 hb05 hb6 hb7 hb8 hb68 h6 h7 ho5;go_wp2
  go_loopg [5,9,10,11] f0 (λf vo vw vy vn wr=>∃(n:Nat)(x y:List aj)(out:List (List aj × Nat)),vn=.int .i64 n/\Hid (zY w.heap.size wr vo out)/\Hid (ai wr vw x)/\Hid (ai wr vy y)/\Hid (KW G v f n x y out R)/\n+f<=10000001/\out.length<=n/\Below w.heap.size w wr)
  case atStart=>exact⟨1,w0,y0,[],rfl,ho8,h78,h8,h,hF9,sM,hb08⟩
  case round =>
   clear ho8 h78 h8 h hF9 hb08;obtain⟨n,x,y,out,rfl,M,F,L,hs,a8,a9,B⟩:=hrel
   cases gk with
   | zero=>exact absurd hs.out (by simp[KW])
   | succ f =>
   obtain⟨lx,hs2⟩:=hs.out;have C:=zH (gK _ x v wr F.out hv lx);obtain⟨dx,hdx2⟩:∃dx,dx=aD x v:=⟨_,rfl⟩;rw[<-hdx2]at C hs2;clear hs hdx2;rcases hs2 with ⟨hd,rfl⟩|⟨hd,kx,ky,N,g,x',y',hg,lg,Y,X,hs2⟩
   ·have hS:=M.out.isSl;clear M F L
    go_wp2_with (go_at_call 27;refine C.out.mono ?_;rintro en w3 ⟨rfl,hb3⟩)
    go_ret;exact⟨_,rfl,hS.on hb3,B.trans (hb3.mono B.size)⟩
   ·have q:=zH (λW (h1:Below wr.heap.size wr W)=>um _ x v W (F.out.on h1) hv kx N);have a0:=zH (λW u (h1:Below wr.heap.size wr W) (hu:ai W u (aS x v))=>Sg (w:=W) ky N (L.out.on h1) hu);generalize aS x v=d at *;generalize gp y d=z at *;have r:=zH (λW u1 u2 (h1:ai W u1 x) (h2:ai W u2 z)=>HG u1 u2 x z g W h1 h2 hg);have I:=zH (λW u (hu:ai W u g)=>gK u g v W hu hv lg);have m:=zH (λW u1 u2 (h1:ai W u1 x) (h2:ai W u2 g)=>IR (w:=W) h1 h2 Y);have s:=zH (λW u1 u2 (h1:ai W u1 z) (h2:ai W u2 g)=>IR (w:=W) h1 h2 X);obtain⟨dg,hdg2⟩:∃dg,dg=aD g v:=⟨_,rfl⟩;rw[<-hdg2]at I hs2;clear hg Y X N kx ky hdg2
    go_upto_region 11 with (first
     | (go_at_call 27;refine C.out.mono ?_;rintro en w3 ⟨rfl,hb3⟩)
     | (go_at_call 32;refine(q.out _ hb3).mono ?_;rintro en w4 ⟨v4,rfl,h4,hb4⟩;have hb34:=hb3.trans (hb4.mono hb3.size))
     | (go_at_call 35;refine(a0.out _ _ hb34 h4).mono ?_;rintro en w5 ⟨v5,rfl,h5,hb5⟩))
    have hb35:=hb34.trans (hb5.mono hb34.size);have hgc2:=zH (r.out _ _ _ (F.out.on hb35) h5);have hx5:=F.out.on hb35;have ho5:=M.out.on hb35;have hbr5:=B.trans (hb35.mono B.size);clear hb3 hb4 hb5 hb34 hb35 h4 q a0 C r F L M
    go_upto_region 12 with (go_at_call 17;refine hgc2.out.mono ?_;rintro en w6 ⟨v6,rfl,h6,hb6⟩)
    have hx6:=hx5.on hb6;have hz6:=h5.on hb6;have ho6:=ho5.on hb6;have hbr6:=hbr5.trans (hb6.mono hbr5.size);have hdg2:=zH (I.out _ _ h6);clear hgc2 hx5 h5 ho5 hbr5 hb6 I;have hn1:n<=10000000:=oM
    go_upto_if 52 with (go_at_call 27;refine hdg2.out.mono ?_;rintro en w7 ⟨rfl,hb7⟩)
    have hx7:=hx6.on hb7;have hz7:=hz6.on hb7;have ho7:=ho6.on hb7;have hg7:=h6.on hb7;have hbr7:=hbr6.trans (hb7.mono hbr6.size);clear hx6 hz6 ho6 h6 hbr6 hb7 hdg2
    go_cut [5,53,54,55,56,57,58] (λvo _ _ _ _ _ _ wd=>Hid (zY w.heap.size wd vo (if 0<dg then out++[(g,n)]else out))/\Hid (ai wd u9 x)/\Hid (ai wd v5 z)/\Hid (ai wd v6 g)/\Below w.heap.size w wd)
    case first =>
     by_cases hp:0<dg
     ·have i:Below w7.heap.size w7 (w7.alloc (.cells #[v6,.int .i64 n] 54)):=(Below.refl _ _).alloc (nL _) _;have l:=hbr7.trans (i.mono hbr7.size);have a1:=ho7.on i
      have a2:vC (w7.alloc (.cells #[v6,.int .i64 n] 54)) (.slice (some ⟨w7.heap.size,0,none⟩) 1 1) [(g,n)] :=
       ⟨_,1,[v6,.int .i64 n],rfl,nL _,(Blk.new w7 54 [v6,.int .i64 n]).at,eU.single ⟨v6,rfl,hg7.on i⟩⟩
      have a7:=hx7.on i;have a5:=hz7.on i;have a3:=hg7.on i;have o:=ho7.base_le;obtain⟨a6,c6,rfl,-⟩:=hg7.shape;replace o:=zH o;clear hx7 hz7 hg7 ho7
      go_wp2_with (at_builtin;refine dL rfl _ _ 50 rfl Tryz.underlying50 D9 rfl rfl a1 a2 (by simp;omega) l.size ?_;intro v8 w8 hown8 hl8 hv8)
      have hb8:=l.trans (hl8.belowAt l.size (λk hk=>(o.out k hk).1));have hx8:=a7.lr hl8 (aV dM) dM;have hz8:=a5.lr hl8 (aV dM) dM;have hg8:=a3.lr hl8 (aV dM) dM;go_meet
      case rel=>exact⟨zH (by rw[if_pos hp];exact hown8),zH hx8,zH hz8,zH hg8,hb8⟩
     ·go_wp2;go_meet
      case rel=>exact⟨zH (by rw[if_neg oM];exact ho7),zH hx7,zH hz7,zH hg7,hbr7⟩
    case rest =>
     clear hx7 hz7 hg7 ho7 hbr7;obtain⟨M,F,hz,hg,S⟩:=hcut;have how2:=zH (m.out _ _ _ F.out hg.out);have hoy2:=zH (λW (hb:Below wc.heap.size wc W)=>s.out W _ _ (hz.out.on hb) (hg.out.on hb))
     have Z:(if 0<dg then out++[(g,n)]else out).length<=n+1:=by
      split
      ·simp;omega
      ·omega
     replace hs2:=zH hs2;generalize(if 0<dg then out++[(g,n)]else out)=out2 at *;clear m s F hz hg
     go_wp2_with (first
      | (go_at_call 64;refine(hoy2.out w9 hb9).mono ?_;rintro en w10 ⟨v10,rfl,h10,hb10⟩)
      | (go_at_call 64;refine how2.out.mono ?_;rintro en w9 ⟨v9,rfl,h9,hb9⟩))
     have hb910:=hb9.trans (hb10.mono hb9.size);go_roundg f
     case measure=>omega
     case rel=>exact⟨n+1,x',y',out2,nM,zH (M.out.on hb910),zH (h9.on hb10),zH h10,hs2,oM,Z,S.trans (hb910.mono S.size)⟩
end Go.Proofs.YtopclbeomcggiaaGreat
end
section
namespace Q
open MP Go.Proofs.YtopclbeomcggiaaGreat
def IX (L:List (MP × Nat)):List (List aj × Nat):=L.map λt=>(t.1.l,t.2)
theorem qP:bx D6<=10000:=by rw[XI];omega
theorem zf{a g q:MP}{d:Nat->Nat}{b k:Nat}(j:g≠0)(e:a=q*g)(ha:Dg d a)(hg:Dg d g)(r:In b q)(u:In k g)(s:bx d<=10000)(hb:b+k<7900000000):GH a.l g.l q.l:=by
 obtain⟨t,l,n⟩:=je j
 have h:∃dq dz:Nat->Nat,Dg dq q/\Dg dz g/\∀w,w<4->dq w+dz w<=d w:=by
  by_cases i:q=0
  ·exact⟨λ_=>0,d,λw _=>by rw[i,deg_zero];omega,hg,λw _=>Nat.le_of_eq (Nat.zero_add _)⟩
  ·refine⟨λw=>(q.deg w).toNat,λw=>(g.deg w).toNat,λw _=>?_,λw _=>?_,λw p=>?_⟩
   ·show q.deg w<=((q.deg w).toNat:Int);have:=deg_pos i w;omega
   ·show g.deg w<=((g.deg w).toNat:Int);have:=deg_pos j w;omega
   ·have m:=ha w p;rw[e,deg_mul i j]at m;have:=deg_pos i w;have:=deg_pos j w;show(q.deg w).toNat+(g.deg w).toNat<=d w;omega
 obtain⟨dq,dz,hq,hz,hd⟩:=h;obtain⟨m,o⟩:=IM n hq hz hd r u s hb;exact⟨t,l,q.l.length,n,m,by rw[e];exact o⟩
theorem KX{S:MP->MP->Prop}{v:Nat}:∀{N n:Nat}{x y:MP}{L:List (MP × Nat)},YR S v N n x y L->L.length<=N/\∀t∈L,t.2<n+N
 | 0,_,_,_,_,h=>by cases h
 | N+1,n,x,y,L,h=>by
  rcases h with ⟨_,rfl⟩|⟨_,_,g,x',z',M,_,_,_,e,rfl⟩
  ·exact⟨by simp,λt b=>by cases b⟩
  obtain⟨i,d⟩:=KX e;split
  ·refine⟨by simp only[List.length_cons];omega,λt b=>?_⟩;rcases List.mem_cons.1 b with rfl|b
   ·show n<n+(N+1);omega
   ·have:=d t b;omega
  ·exact⟨oM,λt b=>by have:=d t b;omega⟩
theorem Wd{a q g:MP}(da:Dg D6 a)(i:In 1418 a)(g1:hd g=1)(e:a=q*g):In 2938 q:=by
 by_cases b:a=0
 ·have d:q=0:=by
   rcases mul_eq_zero.1 (e.symm.trans b)with h|h
   ·exact h
   ·exact absurd h (vL g1)
  rw[d];exact In.zero _
 ·exact(i.quot oM b e g1 (A7 da) da AZ).mono oM
theorem OZ{v:Nat}:∀(N f n:Nat)(x y:MP)(L:List (MP × Nat))(out:List (List aj × Nat)),x≠0->Dg D6 x->YR (YS v D6 1418) v N n x y L ->
  yK (uz 6) v (N+f) n x.l y.l out=some (out++IX L)/\KW (qZ 6) v N n x.l y.l out (out++IX L)
 | 0,_,_,_,_,_,_,_,_,h=>by cases h
 | N+1,f,n,x,y,L,out,x0,dx,h=>by
  have j:x.l.length<=100000000:=by have:=dx.len;rw[XI]at this;omega
  rw[(oM:N+1+f=(N+f)+1)];rcases h with ⟨F,rfl⟩|⟨hd,b,g,x',z',M,hg,ex,u,S,rfl⟩
  ·have o:¬0<aD x.l v:=by have F:aD x.l v<=0:=F;omega
   have e:out++IX []=out:=List.append_nil _;rw[e];exact⟨by rw[yK,if_neg o],j,.inl ⟨o,rfl⟩⟩
  have k:0<aD x.l v:=hd;have m:g≠0:=jW hg.i x0;have g1:=hg.n m;have D:x'≠0:=λe=>x0 (by rw[ex,e];grind);have dg:=dx.dvd x0 hg.i.l
  have s:In 1520 g:=by have:=b.sx.1.fac oM x0 hg.i.l (A7 dx) dx AZ;rwa[uj g1]at this
  have r:=Wd dx b.sx.1 g1 ex;have q:=Wd b.sz.2 b.sz.1 g1 u;obtain⟨d,I,J,z⟩:=TN dx b.sz.2 (b.sx.1.mono oM) (b.sz.1.mono oM);obtain rfl:d=g:=z.eq hg;have lb:(1418:Nat)<LB:=by rw[uq];omega
  have e1:Q.g1 (aS x.l v)=some (dr v x).l:=Es (p:=dr v x) (qL b.sd.2 b.sd.1 qP lb);have W:Q.g1 (gp y.l (dr v x).l)=some (y-dr v x).l:=Es (p:=y-dr v x) (qL b.sz.2 b.sz.1 qP lb);have Z:=oF m ex dx qP r s (by rw[uq];omega);have H:=oF m u b.sz.2 qP q s (by rw[uq];omega);have R:=zf m ex dx dg r s qP oM;have O:=zf m u b.sz.2 dg q s qP oM;have G:=jE dx b.sx.1 qP oM;have X:=(jE b.sy.2 b.sy.1 qP oM).w;have wd:=(jE b.sd.2 b.sd.1 qP oM).w;have K:d.l.length<=100000000:=by have:=dg.len;rw[XI]at this;omega
  have B:Dg D6 x':=dx.dvd x0 ⟨d,ex⟩
  have Y:out++IX (if 0<d.deg v then(d,n)::M else M)=(if 0<aD d.l v then out++[(d.l,n)]else out)++IX M:=by
   show _=(if 0<d.deg v then _ else _)++_;split
   ·show out++(d.l,n)::IX M=_;rw[List.append_assoc];rfl
   ·rfl
  obtain⟨C,E⟩:=OZ N f (n+1) x' z' M (if 0<aD d.l v then out++[(d.l,n)]else out) D B S;rw[Y];refine⟨?_,j,.inr ⟨k,G,X,wd,d.l,x'.l,z'.l,J,K,R,O,E⟩⟩;rw[yK,if_pos k,e1];show dY (Q.g1 (gp y.l (dr v x).l)) _=_;rw[W];show dY (uz 6 x.l (y - dr v x).l) _=_;rw[I];show dY (gT x.l d.l) _=_;rw[Z];show dY (gT (y - dr v x).l d.l) _=_;rw[H];exact C
structure ZK (v:Nat) (p:MP) (L:List (MP × Nat)):Prop where
 el:∀t∈L,Dg D6 t.1/\In 228 t.1/\hd t.1=1/\0<t.1.deg v/\1<=t.2/\∃e:MP,qZ 6 t.1.l (aS t.1.l v) e.l/\e.deg v<=0/\Dg D6 e
 pw:L.Pairwise λa b=>a.2<b.2/\qZ 6 b.1.l a.1.l (1:MP).l
 pl:PL L=nrm p
 dv:∀(i:Nat)(h:i<L.length)(j:Nat),j<L[i].2->xA (PL (L.take i)*L[i].1^j).l L[i].1.l
theorem Al:∀A B:List (MP × Nat),PL (A++B)=PL A*PL B
 | [],B=>by show PL B=1*PL B;grind
 | t::A,B=>by show t.1^t.2*PL (A++B)=t.1^t.2*PL A*PL B;rw[Al A B];grind
theorem O0{g:MP}{j:Nat}:∀{m:Nat},j<=m->g^j∣g^m
 | 0,h=>by obtain rfl:j=0:=oM;exact dvd_refl _
 | m+1,h=>by
  by_cases e:j=m+1
  ·rw[e];exact dvd_refl _
  ·have:=O0 (g:=g) (j:=j) (m:=m) oM;rw[(gR:g^(m+1)=g^m*g)];exact dvd_mul_of this g
theorem O1{L:List (MP × Nat)}{i:Nat}(h:i<L.length):PL (L.take (i+1))=PL (L.take i)*L[i].1^L[i].2:=by rw[List.take_add_one,gE h,Al];show PL (L.take i)*(L[i].1^L[i].2*1)=_;grind
theorem Vv{L:List (MP × Nat)}{i:Nat}(h:i<L.length){j:Nat}(d:j<L[i].2):PL (L.take i)*L[i].1^j*L[i].1∣PL L:=by
 have b:PL L=PL (L.take (i+1))*PL (L.drop (i+1)):=by rw[<-Al,List.take_append_drop]
 rw[b,O1 h];refine dvd_mul_of ?_ _;rw[(gR:PL (L.take i)*L[i].1^j*L[i].1=PL (L.take i)*L[i].1^(j+1))];exact mul_dvd (dvd_refl _) (O0 oM)
theorem XB:126+(126+102)+(126+102+3)+(126+(126+102)+(126+102+3)+248)=1418:=oM
theorem Zh{p g:MP}(b:p≠0)(dp:Dg D6 p)(ip:In 126 p)(h:g∣p)(d:hd g=1):Dg D6 g/\In 228 g:=by have:=ip.fac oM b h (A7 dp) dp AZ;rw[uj d]at this;exact⟨dp.dvd b h,this⟩
theorem TQ{v:Nat}{p:MP}(hv:v<4)(dp:Dg D6 p)(ip:In 126 p)(M:p.prim v)(a0:0<p.deg v):∃(L:List (MP × Nat))(g x y:MP)(N:Nat),N<=7/\NG g p (dr v p)/\p=x*g/\dr v p=y*g/\YR (YS v D6 1418) v N 1 x y L/\x≠0/\Dg D6 x/\In 354 x/\Dg D6 y/\In 1418 y/\ZK v p L:=by
 have m:=bZ M;have dd:=Gt hv dp
 have K:∀w,w<4->D6 w<=6:=λw hw=>by
  obtain⟨e0,e1,e2,e3⟩:=IQ;obtain rfl|rfl|rfl|rfl:w=0\/w=1\/w=2\/w=3:=oM
  all_goals omega
 have he:D6 v<=2^3:=by have:=K v hv;omega
 obtain⟨C,_,hg⟩:=oI 4 oM p (dr v p) (K9 _) (K9 _);have z:C≠0:=jW hg m;have d:NG (nrm C) p (dr v p):=⟨qd hg z,λ_=>jY z⟩;obtain⟨x,ex⟩:=d.i.l;obtain⟨y,G⟩:=d.i.r;have ex:p=x*nrm C:=by rw[jC x];exact ex
 have G:dr v p=y*nrm C:=by rw[jC y];exact G
 have s:=Yp.start m d ex G;have S:∀x y H,Yp v p x y H->YS v D6 1418 x y:=λx y H h=>XB▸Yp.size (n:=2) oM hv m ip dp (A7 dp) AZ Xz he h;obtain⟨L,hL⟩:=YO S ((p.deg v).toNat+1) 1 x y p oM s;have u:=S x y p s;have x0:=s.n.x0;have E:=s.xp;obtain⟨f1,f2⟩:=YR.fac x0 hL;have Y:p.deg v<=6:=by have:=dp v hv;have:=K v hv;omega
 have ix:In 354 x:=(ip.quot oM m ex (jY z) (A7 dp) dp AZ).mono oM;refine⟨L,nrm C,x,y,(p.deg v).toNat+1,oM,d,ex,G,hL,x0,u.sx.2,ix,u.sy.2,u.sy.1,?_⟩;have k:∀t∈L,Dg D6 t.1/\In 228 t.1:=λt B=>Zh m dp ip (dvd_trans (f1 t B).1 E) (f1 t B).2.2.1;have o:=YR.all M s hL;refine⟨λt B=>?_,?_,o,λi h j hj=>?_⟩
 ·obtain⟨Z,a2,R,a4⟩:=f1 t B;obtain⟨b1,q⟩:=k t B;have d1:=Gt hv b1;have hE:t.1.deg v<=((6:Nat):Int):=by have:=b1 v hv;have:=K v hv;omega
  have i1:In 231 (dr v t.1):=(In.der hE (e:=3) oM q).mono oM;obtain⟨e,-,O,I⟩:=TN b1 d1 (q.mono oM) (i1.mono oM);have J:=Vo s.n Z (vL R) I.i;exact⟨b1,q,R,a2,a4,e,O,J,b1.dvd (vL R) I.i.l⟩
 ·refine f2.imp_of_mem λ{a b} ha hb h=>⟨h.1,?_⟩;obtain⟨b1,q⟩:=k a ha;obtain⟨c1,c2⟩:=k b hb;obtain⟨e,-,O,I⟩:=TN c1 b1 (c2.mono oM) (q.mono oM);have:e=1:=Vp M s.n E (by rw[jC];exact h.2) (vL (f1 b hb).2.2.1) I;rw[<-this];exact O
 ·have hm:L[i]∈L:=List.getElem_mem h;obtain⟨b1,q⟩:=k _ hm;have g1:=(f1 _ hm).2.2.1;have F:=Vv h hj;rw[o]at F;have D:PL (L.take i)*L[i].1^j*L[i].1∣p:=dvd_trans F (eu m).1;obtain⟨X,q1⟩:=TF (L:=L.take i) λt B=>(f1 t (List.mem_of_mem_take B)).2.2.1;obtain⟨W,r1⟩:=Na g1 (vL g1) j;have M0:=mul_ne X W;have M1:hd (PL (L.take i)*L[i].1^j)=1:=by rw[xE X W,q1,r1,Rat.mul_one]
  obtain⟨_,iM⟩:=Zh m dp ip (dvd_trans ⟨_,rfl⟩ D) M1;exact OX M0 (vL g1) (dp.dvd m D) iM q qP oM
theorem XC{v:Nat}{a:MP}(hv:v<4)(da:Dg D6 a)(X:In 12 a):∃(p:MP)(L:List (MP × Nat)),Gx (qZ 6) a.l v p.l/\Dg D6 p/\In 126 p/\VR (uz 6) a.l v=some (IX L)/\Y0 (qZ 6) a.l v (IX L) /\
  L.length<=7/\(∀t∈L,t.2<=8)/\(a.deg v<1/\L=[]\/¬a.deg v<1/\ZK v p L):=by
 by_cases o:a=0
 ·refine⟨0,[],.inl ⟨zero_iff.1 o,rfl⟩,λw _=>by rw[deg_zero];omega,In.zero _,?_,⟨[],.inl ⟨zero_iff.1 o,rfl⟩,sM,.inl ⟨(oM:(-1:Int)<1),rfl⟩⟩,sM,sM,.inl ⟨by rw[o,deg_zero];omega,rfl⟩⟩;rw[zero_iff.1 o];rfl
 obtain⟨p,e1,r,K,dp,ip,g,W,D,C⟩:=YZ hv da X o;have s:=bZ K;have G:g≠0:=vL D;have M:a.deg v=p.deg v:=by rw[W,deg_mul G s,qp C G];omega
 have E:p.l.length<=100000000:=by have:=dp.len;rw[XI]at this;omega
 by_cases H:a.deg v<1
 ·have j:aD p.l v<1:=(oM:p.deg v<1)
  refine⟨p,[],r,dp,ip,?_,⟨p.l,r,E,.inl ⟨j,rfl⟩⟩,sM,sM,.inl ⟨H,rfl⟩⟩;rw[VR,e1];show(if aD p.l v<1 then _ else _)=_;rw[if_pos j];rfl
 have j:¬aD p.l v<1:=(oM:¬p.deg v<1)
 obtain⟨L,g,x,y,N,hN,hg,ex,F,hL,x0,S,I,dy,J,Y⟩:=TQ hv dp ip K oM;have b:g≠0:=jW hg.i s;have B:=hg.n b;have k:=Gt hv dp
 have hE:p.deg v<=((6:Nat):Int):=by
  have h:=dp v hv;obtain⟨e0,e1,e2,O⟩:=IQ;obtain rfl|rfl|rfl|rfl:v=0\/v=1\/v=2\/v=3:=oM
  all_goals omega
 have id:In 129 (dr v p):=(In.der hE (e:=3) oM ip).mono oM;obtain⟨q,O,r3,z⟩:=TN dp k (ip.mono oM) (id.mono oM);obtain rfl:q=g:=z.eq hg;have dg:=dp.dvd s hg.i.l;obtain⟨-,u⟩:=Zh s dp ip hg.i.l B;obtain⟨d,m⟩:=OZ N (fuel - N) 1 x y L [] x0 S hL;rw[show N+(fuel - N)=fuel by have:fuel=10000000:=rfl;omega]at d;have ed:Q.g1 (aS p.l v)=some (dr v p).l:=Es (p:=dr v p) (qL k id qP (by rw[uq];omega));have Z:=oF b ex dp qP I u (by rw[uq];omega);have R:=oF b F k qP J u (by rw[uq];omega);obtain⟨s1,s2⟩:=KX hL;refine⟨p,L,r,dp,ip,?_,⟨p.l,r,E,.inr ⟨j,jE dp ip qP oM,(jE k id qP oM).w,q.l,x.l,y.l,N,r3,zf b ex dp dg I u qP oM,zf b F k dg J u qP oM,oM,m⟩⟩,oM,λt ht=>by have:=s2 t ht;omega,.inr ⟨H,Y⟩⟩;rw[VR,e1];show(if aD p.l v<1 then _ else _)=_;rw[if_neg j,ed];show dY (uz 6 p.l (dr v p).l) _=_;rw[O];show dY (gT p.l q.l) _=_;rw[Z];show dY (gT (dr v p).l q.l) _=_;rw[R];exact d
end Q
end
