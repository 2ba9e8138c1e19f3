/- R8.Gcd's run, plain: exact divisions. No program in sight. -/
import Derived.Test.YtopclbeomcggiaaGreatY33
set_option linter.unusedVariables false
set_option linter.unusedSimpArgs false
set_option maxHeartbeats 16000000
set_option maxRecDepth 100000
section
namespace Q
open MP Go.Proofs.YtopclbeomcggiaaGreat
theorem OP{g:aj}{ts:List aj}(hb:Wr (g::ts)):∀(s out:List aj),bQ s->(∀e:List aj,e.Sublist s->Wr (aZ e (g::ts)))->(∀x∈s,Wr [x]/\Wr (aZ (g::ts) [x])/\∀t∈g::ts,InR (t.1.add x.1))->out.length+s.length<=100000000 ->
  wL (g::ts) g s.length (aZ s (g::ts)) out (some (out++s))
 | [],out,_,_,_,_=>by rw[List.append_nil];exact .done
 | x::s,out,vs,hm,hx,hn=>by have hz:=(hb.v.2 g sM).1;have d:=vs.2 x sM;obtain⟨x1,x2,p⟩:=hx x sM;obtain⟨l,m⟩:=BM vs hb.v;obtain⟨a,ha⟩:=BL (bQ.mul _ _) (jm d.1 hz) l m;have k:=hm (x::s) (List.Sublist.refl _);have o:=OP hb s (out++[x]) vs.tail (λe h=>hm e (h.trans (List.sublist_cons_self _ _))) (λt n=>hx t (by simp[n])) (by simp at hn ⊢;omega);have i:=Dx vs hb.v bQ.nil;rw[yG (bQ.mul _ _),yG (bQ.mul _ _)]at i;rw[ha]at k i ⊢;have b:=Dw (x:=x) hz;have j:((x.1.add g.1).sub g.1)=x.1:=congrArg Prod.fst b;refine .step (by show((x.1.add g.1).sub g.1).nat=true;rw[j];exact d.2) k (by show InR ((x.1.add g.1).sub g.1);rw[j];exact x1.ir x sM) (by rw[b];exact x1) (by rw[b];exact x2) (by rw[b];exact p) (by simp at hn;omega) ?_;rw[b,i];simpa using o
theorem IM{dq dz d:Nat->Nat}{b k:Nat}{q z:MP}{g:aj}{ts:List aj}(i:z.l=g::ts)(hq:Dg dq q)(hz:Dg dz z)(hd:∀w,w<4->dq w+dz w<=d w)(o:In b q)(B:In k z)(n:bx d<=10000)(hb:b+k<7900000000) :
  Wr (g::ts)/\wL (g::ts) g q.l.length (q*z).l [] (some q.l):=by
 have D:=ul hq hz hd o B n hb;have s:Dg d q:=λw m=>by have E:=hq w m;have F:=hd w m;omega
 have wq:=jE s o n oM;have C:Wr (g::ts):=i▸D.wq;refine⟨C,?_⟩
 have u:∀r:List aj,r.Sublist q.l->Wr (aZ r (g::ts)):=λr h=>by have:=(ul (p:=⟨r,q.v.sublist h⟩) (TJ hq h) hz hd (TH o h) B n hb).ms z.l.length;rw[tL (nL _),i]at this;exact this
 have y:=ul hz hq (λw m=>by have:=hd w m;omega) B o n oM;have:=OP C q.l [] q.v u (λx j=>?_) (by simpa using wq.w.len)
 ·have e:(q*z).l=aZ q.l (g::ts):=by rw[<-i];rfl
  rw[e];simpa using this
 ·obtain⟨t1,t2⟩:=y.ti x j;have h:[x].Sublist q.l:=List.singleton_sublist.2 j;rw[Ai z.v (q.v.sublist h),i]at t1;rw[i]at t2;exact⟨wq.w.sub h,t1,t2⟩
def Bj (d:Nat->Nat) (b:Nat) (G:mE):Prop:=∀x y:MP,Dg d x->Dg d y->In b x->In b y->∃g:MP,G x.l y.l g.l/\NG g x y
def YV (G:mE):Prop:=∀(d:Nat->Nat)(b:Nat)(x:MP),Dg d x->In b x->bx d<=10000->b<7900000000->G [] x.l (nrm x).l
theorem KQ{v x:Nat}{L:nu}(h:qO v L)(D:x<=L.br){G:mE}(C:Bj (dW v L.E 0) L.bE G):∀(l:List (List aj))(b:MP),(∀c∈l,YK v L x c) ->
  (b=0\/(hd b=1/\∃f:MP,f≠0/\b∣f/\Dg (dW v L.E 0) f/\In x f)) ->
  ∃g:MP,nz G l b.l g.l/\g∣b/\(∀f:MP,f.l∈l->g∣f)/\(∀d,d∣b->(∀f:MP,f.l∈l->d∣f)->d∣g)/\(g≠0->hd g=1)
 | [],b,_,ha=>⟨b,rfl,dvd_refl _,λf hf=>(by cases hf),λd h _=>h,λh0=>ha.elim (λe=>absurd e h0) λe=>e.1⟩
 | c::l,b,hl,ha=>by
  obtain⟨f,rfl,B,hf⟩:=hl c sM
  have j:Dg (dW v L.E 0) b/\In L.bE b:=by
   rcases ha with e|⟨s,p,f0,o,y,z⟩
   ·rw[e];exact⟨λw _=>by rw[deg_zero];omega,In.zero _⟩
   ·obtain⟨H,I⟩:=su h s f0 o y z;exact⟨H,I.mono (OE D)⟩
  obtain⟨g,J,hg⟩:=C b f j.1 B j.2 (hf.mono (by unfold nu.bE;omega))
  obtain⟨k,e,F,k2,K,M⟩:=KQ h D C l g (λc hc=>hl c (by simp[hc])) (by
   by_cases q:g=0
   ·exact .inl q
   ·refine .inr ⟨hg.n q,?_⟩;by_cases f0:f=0
    ·rcases ha with e|⟨-,p,h0,o,y,z⟩
     ·exact absurd (zero_dvd (hg.i.u 0 (by rw[e];exact dvd_refl 0) (by rw[f0];exact dvd_refl 0))) q
     ·exact⟨p,h0,dvd_trans hg.i.l o,y,z⟩
    ·exact⟨f,f0,hg.i.r,B,hf⟩)
  refine⟨k,⟨g.l,J,e⟩,dvd_trans F hg.i.l,λp m=>?_,λd s o=>K d (hg.i.u d s (o f sM)) λf hf=>o f (by simp[hf]),M⟩;rcases List.mem_cons.1 m with e|m
  ·rw[MP.eq_of e];exact dvd_trans F hg.i.r
  ·exact k2 p m
theorem OQ{v:Nat}{a g:MP}(k:∀f:MP,f.l∈aB a.l v->g∣f)(j:∀d,d∣0->(∀f:MP,f.l∈aB a.l v->d∣f)->d∣g):uG v g a:=by
 have b:∀n,g∣a.co v n:=λn=>by
  rcases Nat.lt_or_ge n (aD a.l v+1).toNat with h|h
  ·refine k _ ?_;show aR a.l v n∈aB a.l v;exact List.mem_map.2 ⟨n,List.mem_range.2 h,rfl⟩
  ·rw[co_above (by have e:a.deg v=aD a.l v:=rfl;have:=deg_ge v a;omega)];exact dvd_zero g
 have hf:g.fr v:=by
  by_cases ha:a=0
  ·have:g=0:=by
    have m:=j 0 (dvd_refl 0) λf hf=>by rw[ha]at hf;cases hf
    exact zero_dvd m
   rw[this];exact qR v
  ·exact sI (lc_ne ha v) (b _) (lc_fr v a)
 refine⟨hf,(dvd_iff_co hf a).2 b,λd hd i=>j d (dvd_zero d) λf hf=>?_⟩;obtain⟨n,h⟩:=fH hf;have:f=a.co v n:=MP.eq_of h;rw[this];exact(dvd_iff_co hd a).1 i n
theorem EE{v x:Nat}{L:nu}(h:qO v L)(u:x<=L.br){G:mE}(r:Bj (dW v L.E 0) L.bE G){a:MP}(o:a.lo (v+1))(ha:∀w,w<v->a.deg w<=L.E)(m:In x a) :
  ∃g:MP,nz G (aB a.l v) [] g.l/\uG v g a/\(g≠0->hd g=1)/\(a≠0->Dg (dW v L.E 0) g/\In (L.cz v x) g):=by
 obtain⟨g,s,-,b,q,k⟩:=KQ h u r (aB a.l v) 0 (λc hc=>by
  obtain⟨n,e⟩:=fH hc;obtain⟨i,b⟩:=Ah h o ha m n
  exact⟨a.co v n,e.symm,i,b⟩) (.inl rfl)
 have hg:=OQ b q;refine⟨g,s,hg,k,λj=>?_⟩;have p:=dvd_ne j hg.d;obtain⟨i,b⟩:=Ah h o ha m (a.deg v).toNat;exact su h (k p) (lc_ne j v) ((dvd_iff_co hg.f a).1 hg.d _) i b
theorem IP{v:Nat}{G:mE}{a g q:MP}{d:Nat->Nat}{b k:Nat}(i:a≠0)(hc:nz G (aB a.l v) [] g.l)(e:a=q*g)
  (ha:Dg d a) (p:In b q) (x:In k g) (o:bx d<=10000) (hb:b+k<7900000000) (hv:v<4) :
  QG G a.l v (nrm q).l:=by
 have r:q≠0:=λh=>i (by rw[e,h];grind);have j:g≠0:=λh=>i (by rw[e,h];grind);have n:Dg d q:=ha.dvd i ⟨g,e⟩
 have z:∀w,w<4->(q.deg w).toNat+(g.deg w).toNat<=d w:=λw B=>by have m:=ha w B;rw[e,deg_mul r j]at m;have:=deg_pos r w;have:=deg_pos j w;omega
 obtain⟨t,l,s⟩:=je j;obtain⟨m,y⟩:=IM s (dq:=λw=>(q.deg w).toNat) (dz:=λw=>(g.deg w).toNat) (λw _=>by show q.deg w<=((q.deg w).toNat:Int);have:=deg_pos r w;omega) (λw _=>by show g.deg w<=((g.deg w).toNat:Int);have:=deg_pos j w;omega) z p x o hb;have u:=jE ha (by rw[e];exact TI p x) o hb;refine⟨q.l,u.deg v,u.w.len,?_,pQ n p o oM⟩;refine .inr ⟨λh=>i (zero_iff.2 h),t,l,q.l.length,by rw[<-s];exact hc,m,by rw[e];exact y⟩
theorem YW(v i:Nat):rF (sF v) i=(xk v i).l:=by
 have e:(⟨rF (sF v) i,bQ.pow _ _⟩:MP)=xk v i:=ext' λx=>by rw[ev_xk];show ev x (rF (sF v) i)=_;rw[ev_pow x (bQ.var v).nat,QM]
 exact congrArg MP.l e
theorem TK(v i:Nat):uh 1 1 (xk v i):=by
 refine⟨λt b=>?_,?_⟩
 ·have b:t∈[(e0.put v i,(1:Rat))]:=b;rw[List.mem_singleton.1 b];exact⟨1,by show(1:Rat)*((1:Nat):Rat)=((1:Int):Rat);decide +kernel⟩
 ·show((1:Nat):Rat)*(bJ 1+0)<=((1:Nat):Rat);decide +kernel
theorem VZ(v i:Nat):In 0 (xk v i):=⟨1,1,oM,sM,sM,TK v i⟩
theorem V3{v i:Nat}(hv:v<4):Dg (dW v 0 i) (xk v i):=λw b=>by
 unfold dW;by_cases h:w=v
 ·subst h;rw[if_neg oM,if_pos rfl,deg_xk];omega
 ·rw[rQ b hv (λe=>h e.symm)];omega
theorem V4{v x t:Nat}(hv:v<4){p:MP}(h:Dg (dW v x t) p)(n:Nat):Dg (dW v x 0) (p.co v n):=λw i=>by
 have b:=rP v n p i hv (h w i);unfold dW at *;split
 ·rename_i d;rwa[if_pos d]at b
 ·rename_i d;by_cases e:w=v
  ·subst e;have:(p.co w n).deg w<=0:=co_fr w n p;rw[if_pos rfl];omega
  ·rw[if_neg d,if_neg e]at b;rw[if_neg e];exact b
theorem uw{v x t x' t':Nat}(hv:v<4)(d:x<=x')(b:t<=t')(h:(t'+1)*(x'+1)^v<=10000):bx (dW v x t)<=10000:=by rw[Ag hv];exact Nat.le_trans (Nat.mul_le_mul oM (Nat.pow_le_pow_left oM v)) h
theorem wH{v x t x' t' X T:Nat}(d:x+x'<=X)(b:t+t'<=T)(w:Nat):dW v x t w+dW v x' t' w<=dW v X T w:=by
 unfold dW;split
 ·exact d
 ·split
  ·exact b
  ·omega
theorem Vs{v n i A al M X B:Nat}{y x:MP}(hv:v<4)(hn:y.deg v=(n:Int))(o:Dg (dW v A n) y)(h:In al y)(m:Dg (dW v X M) x)(b:In B x)(hM:n+i<=M)(hx:x.deg v<((n+i+1:Nat):Int))(hb:(M+1)*(X+A+1)^v<=10000)(hs:B+(al+1)<7900000000) :
  xA (x.co v (n+i)).l (rF (sF v) i)/\xA (y.co v n).l x.l/\xA (Ed v n x.l i) y.l/\Wr (aZ (y.co v n).l x.l)/\Wr (aZ (Ed v n x.l i) y.l) /\
   ∃z:MP,Ee v n (y.co v n).l y.l x.l i=z.l/\z=y.co v n*x-(x.co v (n+i)*xk v i)*y/\Dg (dW v (X+A) M) z/\In (B+(al+1)) z/\z.deg v<((n+i:Nat):Int):=by
 have F:Ed v n x.l i=(x.co v (n+i)*xk v i).l:=by rw[Ed,YW];rfl
 have u:=V4 hv o n;have C:=V4 hv m (n+i);have I:=h.co v n;have J:=b.co v (n+i);have E:Dg (dW v X i) (x.co v (n+i)*xk v i):=IL C (V3 hv) λw _=>wH oM oM w;have K:In B (x.co v (n+i)*xk v i):=(J.mul (VZ v i)).mono oM;have m1:xA (x.co v (n+i)).l (xk v i).l:=ul (d:=dW v X i) C (V3 hv) (λw _=>wH oM oM w) J (VZ v i) (uw hv oM oM hb) oM;have Z:xA (y.co v n).l x.l:=ul (d:=dW v (X+A) M) u m (λw _=>wH oM oM w) I b (uw hv (nL _) (nL _) hb) oM;have m3:xA (x.co v (n+i)*xk v i).l y.l:=ul (d:=dW v (X+A) M) E o (λw _=>wH oM oM w) K h (uw hv (nL _) (nL _) hb) oM;have d2:Dg (dW v (X+A) M) (y.co v n*x):=IL u m λw _=>wH oM oM w;have d3:Dg (dW v (X+A) M) (x.co v (n+i)*xk v i*y):=IL E o λw _=>wH oM oM w;have w2:Wr (aZ (y.co v n).l x.l):=(jE d2 (I.mul b) (uw hv (nL _) (nL _) hb) oM).w;have w3:Wr (aZ (x.co v (n+i)*xk v i).l y.l):=(jE d3 (K.mul h) (uw hv (nL _) (nL _) hb) oM).w;rw[YW,F];refine⟨m1,Z,m3,w2,w3,y.co v n*x-(x.co v (n+i)*xk v i)*y,?_,rfl,λw G=>?_,?_,?_⟩
 ·rw[Ee,F];rfl
 ·have h1:=d2 w G;have h2:=d3 w G;have h3:=nD w (y.co v n*x) ((x.co v (n+i)*xk v i)*y);omega
 ·obtain⟨D,H,L,N,O,r⟩:=b;obtain⟨q,j,b1,R,S,s⟩:=h;have Y:=(s.co v n).mul r;have k2:=((r.co v (n+i)).mul (TK v i)).mul s;rw[nU,nU,Nat.mul_comm D q,Nat.mul_comm H j]at k2;have g1:=Nat.mul_le_mul R N;have W:=Nat.mul_le_mul S O;rw[<-Nat.pow_add]at g1 W
  have g3:2^(al+B)+2^(al+B)=2^(B+(al+1)):=by rw[(oM:B+(al+1)=(al+B)+1),Nat.pow_succ];omega
  exact⟨q*D,j*H+j*H,Nat.mul_pos b1 L,oM,oM,Y.sub k2⟩
 ·have h0:(y.co v n*x-(x.co v (n+i)*xk v i)*y).deg v<=((n+i:Nat):Int)-1:=by
   refine deg_le_of oM λk hk=>?_;rw[co_sub,co_mul_fr (co_fr v n y),(gR:(x.co v (n+i)*xk v i)*y=x.co v (n+i)*(xk v i*y)),co_mul_fr (co_fr v (n+i) x),co_xk,if_pos oM];rcases Nat.eq_or_lt_of_le (oM:n+i<=k)with e|hlt
   ·rw[<-e,(oM:n+i-i=n)];grind
   ·rw[co_above (p:=x) (n:=k) oM,co_above (p:=y) (n:=k-i) oM];grind
  omega
theorem Nf{v n A al M:Nat}{y:MP}(hv:v<4)(p:y.deg v=(n:Int))(e:Dg (dW v A n) y)(q:In al y):∀(i X B:Nat)(x:MP),Dg (dW v X M) x->In B x->n+i<=M+1->x.deg v<((n+i:Nat):Int)->(M+1)*(X+i*A+1)^v<=10000->B+i*(al+1)<7900000000 ->
  MU v n (y.co v n).l y.l i x.l/\∃r:MP,QE v n (y.co v n).l y.l i x.l=r.l/\Dg (dW v (X+i*A) M) r/\In (B+i*(al+1)) r/\r.deg v<(n:Int)/\∃(t:MP)(s:Nat),(y.co v n)^s*x=t*y+r
 | 0,X,B,x,dx,ix,hM,hx,hb,hs=>by
  rw[Nat.zero_mul,Nat.add_zero]at hb hs;rw[Nat.zero_mul,Nat.add_zero,Nat.zero_mul,Nat.add_zero];refine⟨?_,x,rfl,dx,ix,hx,0,0,?_⟩
  ·have m:=dx.len;have o:=uw hv (nL X) (nL M) hb;show x.l.length<=100000000;omega
  ·have b:(y.co v n)^0=1:=gR;rw[b];grind
 | i+1,X,B,x,dx,ix,hM,hx,hb,hs=>by
  have h:X+(i+1)*A=X+A+i*A:=by rw[Nat.add_mul,Nat.one_mul];omega
  have j:B+(i+1)*(al+1)=B+(al+1)+i*(al+1):=by rw[Nat.add_mul,Nat.one_mul];omega
  rw[h]at hb;rw[j]at hs;rw[h,j];obtain⟨m1,I,J,K,L,z,k,d,dz,H,hz⟩:=Vs (i:=i) hv p e q dx ix oM (by rw[Nat.add_assoc];exact hx) (Nat.le_trans (Nat.mul_le_mul_left _ (Nat.pow_le_pow_left oM v)) hb) oM;obtain⟨m,r,o,C,D,E,t,s,F⟩:=Nf hv p e q i (X+A) (B+(al+1)) z dz H oM hz hb hs;have G:M+1<=10000:=Nat.le_trans (Nat.le_mul_of_pos_right _ (Nat.pow_pos oM)) hb;refine⟨⟨oM,m1,I,J,K,L,by rw[k];exact m⟩,r,by rw[QE,k];exact o,C,D,E,t+(y.co v n)^s*(x.co v (n+i)*xk v i),s+1,?_⟩;have b:(y.co v n)^(s+1)=(y.co v n)^s*y.co v n:=gR;rw[b];have u:(y.co v n)^s*y.co v n*x=(y.co v n)^s*z+(y.co v n)^s*(x.co v (n+i)*xk v i)*y:=by rw[d];grind
  rw[u,F];grind
structure V5 (v:Nat) (L:nu) (pb:Nat):Prop where
 q1:(L.M+1)*(L.b1 v+1)<=pb
 qk:∀k,k<L.M+1->2<=k->(k+1)*(L.mu v (L.U k)+1)<=pb
 z:pb+(if v=0 then 0 else pb)<7900000000
 x1:L.br+L.mu v (2*L.M)+L.cz v L.br<7900000000
 x2:L.b1 v+L.cz v L.b<7900000000
 fin:L.bE+L.mu v (2*L.M)<7900000000
 w1:L.mu v (2*L.M)+(L.M+1)<7900000000
theorem OT(G:mE)(v:Nat):QG G [] v []:=⟨[],by show(-1:Int)<=900000;omega,sM,.inl ⟨rfl,rfl⟩,.inl ⟨rfl,rfl⟩⟩
theorem KR(G:mE)(v n:Nat)(p:List aj):Bi G v (n+1) p [] p:=.inl ⟨rfl,rfl⟩
theorem KS{v X B M:Nat}{G:mE}{x:MP}(hv:v<4)(x0:x≠0)(b:Dg (dW v X M) x)(d:In B x)(hb:(M+1)*(X+1)^v<=10000)(u:B+(M+1)<7900000000)(n:Nat):Bi G v (n+2) x.l (1:MP).l (1:MP).l:=by
 obtain⟨k,m⟩:∃k:Nat,x.deg v=k:=⟨(x.deg v).toNat,by have:=deg_pos x0 v;omega⟩;have o:=b.top hv;have d1:Dg (dW v 0 0) (1:MP):=λw _=>by rw[Bw];omega
 obtain⟨i,r,j,-,-,s,-⟩:=Nf (M:=M) (n:=0) hv (Bw v) d1 (In.one 0) (k+1) X B x b d oM oM (by rw[Nat.mul_zero,Nat.add_zero];exact hb) (by rw[Nat.zero_add,nU];omega);have p:r=0:=Classical.byContradiction λh=>by have:=deg_pos h v;omega
 have q:=jE b d (uw hv (nL _) (nL _) hb) oM;have w1:W8 (1:MP).l:=jE d1 (In.one 0) (uw hv (Nat.zero_le X) (Nat.zero_le M) hb) oM;have e1:aD x.l v=k:=m;have es:(aD x.l v-((0:Nat):Int)+1).toNat=k+1:=oM;refine .inr ⟨λh=>one_ne (zero_iff.2 h),q,w1,0,[],Bw v,oM,by rw[es];exact i,?_,KR G v n _⟩;have e:QE v 0 (aR (1:MP).l v ((0:Nat):Int)) (1:MP).l (aD x.l v-((0:Nat):Int)+1).toNat x.l=[]:=by rw[es];exact j.trans (by rw[p];rfl)
 rw[e];exact OT G v
theorem Qs{a:MP}(h:a≠0):nrm (c (hd a))=1:=by have e:c (hd a)*1=c (hd a):=gR;rw[<-e,En (yU h),uj qI]
theorem Vt{v X B:Nat}{G:mE}{r:MP}(i:YV G)(hv:v<4)(b:r≠0)(j:r.deg v<=0)(dr:Dg (dW v X 0) r)(ir:In B r)(hb:(X+1)^v<=10000)(h:B+(if v=0 then 0 else B)<7900000000):QG G r.l v (1:MP).l:=by
 have d:bx (dW v X 0)<=10000:=by rw[Ag hv];omega
 have hc:nz G (aB r.l v) [] (nrm r).l:=by
  have k:=deg_pos b v;have e0:aD r.l v=r.deg v:=rfl
  have e1:aB r.l v=[r.l]:=by unfold aB;rw[(oM:(aD r.l v+1).toNat=1)];show [(r.co v 0).l]=_;rw[G5 j]
  rw[e1];exact⟨_,i _ _ r dr ir d oM,rfl⟩
 have hz:In (if v=0 then 0 else B) (nrm r):=by
  split
  ·rename_i e;subst e;obtain⟨s,rfl⟩:=kL dr.lo0;have h:s≠0:=λe=>b (by rw[e,Cm]);have e:c s*1=c s:=gR;rw[<-e,En h,uj qI];exact In.one 0
  ·exact ir.nrm
 have:=IP (q:=c (hd r)) b hc (si b) dr (ir.hd b) hz d h hv;rwa[Qs b]at this
theorem OU{v pb:Nat}{L:nu}(h:qO v L)(h8:V5 v L pb){G:mE}(hX:Bj (dW v L.E 0) L.bE G)(hN:YV G)
  {p q:MP} (p0:p≠0) (q0:q≠0) (lp:p.lo (v+1)) (lq:q.lo (v+1)) (hp:∀w,w<v->p.deg w<=L.d) (hq:∀w,w<v->q.deg w<=L.d) (ip:In (L.b1 v) p) (iq:In (L.b1 v) q) (hm:p.deg v<=L.M) (hn:q.deg v<=L.M) :
  ∀(n:Nat)(x y:MP)(U:Nat),y.deg v+2<n->Sq v p q x y->x.prim v->y.prim v->x.lo (v+1)->y.lo (v+1)->(∀w,w<v->x.deg w<=((U*L.d:Nat):Int))->(∀w,w<v->y.deg w<=((U*L.d:Nat):Int))->In (L.mu v U) x->In (L.mu v U) y ->
   1<=U->U<=2*L.M->(U=1\/((U:Int)+2*x.deg v=2*(L.M:Int)+2/\y.deg v<x.deg v))->1<=y.deg v->y.deg v<=x.deg v->x.deg v<=L.M->y.deg v<=p.deg v->y.deg v<=q.deg v ->
   ∃s:MP,Bi G v n x.l y.l s.l/\In (L.mu v (2*L.M)) s/\jw s x y
 | 0,x,y,U,hlt,_,_,_,_,_,_,_,_,_,_,_,_,m,_,_,_,_=>by omega
 | n+1,x,y,U,hlt,hS,px,py,lx,ly,dx,dy,ix,iy,hU1,hU2,hUc,hy1,hyx,hxM,hyp,hyq=>by
  have hv:=h.hv;have HG:=oI v oM;have y0:=bZ py;have x0:=bZ px;obtain⟨k,hk⟩:∃k:Nat,x.deg v=k:=⟨(x.deg v).toNat,oM⟩;obtain⟨j,hj⟩:∃j:Nat,y.deg v=j:=⟨(y.deg v).toNat,oM⟩
  have X:(k-j+1+1)*(U*L.d)<=L.P/\(k-j+1+1)*(L.mu v U+1)<=pb:=by
   rcases hUc with e|⟨e,a9⟩
   ·subst e;have m:=h.p1;have a4:=h8.q1;have o:=Nat.mul_le_mul_right (1*L.d) (oM:k-j+1+1<=L.M+1);have h3:=Nat.mul_le_mul_right (L.mu v 1+1) (oM:k-j+1+1<=L.M+1);have h4:L.mu v 1=L.b1 v:=if_pos rfl;rw[h4]at h3 ⊢;omega
   ·have m:=h.pk k oM oM;have a4:=h8.qk k oM oM;have S:L.U k=U:=by unfold nu.U;omega
    rw[S]at m a4;have o:=Nat.mul_le_mul_right (U*L.d) (oM:k-j+1+1<=k+1);have h3:=Nat.mul_le_mul_right (L.mu v U+1) (oM:k-j+1+1<=k+1);omega
  have hz:=h8.z;have ed:U*L.d+(k-j+1)*(U*L.d)=(k-j+1+1)*(U*L.d):=by rw[Nat.add_one_mul (k-j+1)];omega
  have eb:L.mu v U+(k-j+1)*(L.mu v U+1)+1=(k-j+1+1)*(L.mu v U+1):=by rw[Nat.add_one_mul (k-j+1)];omega
  have a6:(L.M+1)*(U*L.d+(k - j+1)*(U*L.d)+1)^v<=10000:=Nat.le_trans (Nat.mul_le_mul_left _ (Nat.pow_le_pow_left (by have:=X.1;omega) v)) h.bP;have a2:Dg (dW v (U*L.d) L.M) x:=ui lx dx oM;have ao:Dg (dW v (U*L.d) j) y:=ui ly dy oM;have a3:Dg (dW v (U*L.d) L.M) y:=ui ly dy oM;have O:(L.M+1)*(U*L.d+1)^v<=10000:=Nat.le_trans (Nat.mul_le_mul_left _ (Nat.pow_le_pow_left oM v)) a6;have wx:=jE a2 ix (uw hv (nL _) (nL _) O) oM;have wy:=jE a3 iy (uw hv (nL _) (nL _) O) oM;obtain⟨f1,r,f2,f3,f4,f5,t,s',K⟩:=Nf (M:=L.M) hv hj ao iy (k - j+1) (U*L.d) (L.mu v U) x a2 ix oM oM a6 oM;rw[ed]at f3;replace f4:In ((k - j+1+1)*(L.mu v U+1)) r:=f4.mono oM;have ap:y.co v j=y.lc v:=by unfold MP.lc;rw[hj];rfl
  have b7:aD y.l v=(j:Int):=hj;have b8:aD x.l v=(k:Int):=hk;have es:(aD x.l v-(j:Int)+1).toNat=k-j+1:=oM;have b9:L.M+1<=10000:=Nat.le_trans (Nat.le_mul_of_pos_right _ (Nat.pow_pos oM)) O;have aa:L.mu v U<=L.mu v (2*L.M):=zb h hU1 hU2 (nL _)
  -- one round of the sequence
  have B:∀(t s:List aj),QG G r.l v t->Bi G v n y.l t s->Bi G v (n+1) x.l y.l s:=λt s m o=>by
   refine .inr ⟨λe=>y0 (zero_iff.2 e),wx,wy,j,t,hj,oM,by rw[es];exact f1,?_,o⟩;have S:QE v j (aR y.l v (j:Int)) y.l (aD x.l v-(j:Int)+1).toNat x.l=r.l:=by rw[es];exact f2
   rw[S];exact m
  rw[ap]at K;have W:=wE hv ly s';have I:=IC (lc_ne y0 v) s';have H:∀d:MP,d.prim v->d∣y->d∣r->d∣x:=λd pd m o=>fA HG hv lx pd W I (by rw[K];exact dvd_add (dvd_mul_of' m t) o)
  have hrem:∀d:MP,d∣x->d∣y->d∣r:=λd m o=>by
   have S:r=(y.lc v)^s'*x-t*y:=by rw[K];grind
   rw[S];exact dvd_sub (dvd_mul_of' m _) (dvd_mul_of' o _)
  by_cases b:r=0
  ·refine⟨y,B [] y.l (by rw[b];exact OT G v) ?_,iy.mono aa,H y py (dvd_refl y) (by rw[b];exact dvd_zero y),dvd_refl y,λd _ h=>h⟩;obtain⟨n',rfl⟩:∃n',n=n'+1:=⟨n - 1,oM⟩;exact KR G v n' _
  have bb:=deg_pos b v;by_cases a7:r.deg v<=0
  ·obtain⟨n',rfl⟩:∃n',n=n'+2:=⟨n - 2,oM⟩;have an:Dg (dW v L.P 0) r:=ui f3.lo (λw Y=>by have:=f3.low hv w Y;have:=X.1;omega) a7;have ar:(L.P+1)^v<=10000:=Nat.le_trans (Nat.le_mul_of_pos_left _ oM) h.bP;have bc:=h8.w1;refine⟨1,B (1:MP).l (1:MP).l (Vt hN hv b a7 an (f4.mono X.2) ar hz) (KS hv y0 a3 iy O oM n'),In.one _,unit_dvd unit_one x,unit_dvd unit_one y,λd m o=>?_⟩;have hd:=dvd_deg b (hrem d m o) v;exact py d (by show d.deg v<=0;omega) o
  have b0:1<=r.deg v:=oM
  have ab:(k-j+1+1)*(U*L.d)<=L.E/\(k-j+1+1)*(L.mu v U+1)<=L.br:=by
   rcases hUc with e|⟨e,a9⟩
   ·subst e;have m:=h.e1;have o:=Nat.mul_le_mul_right (1*L.d) (oM:k-j+1+1<=L.M);have h3:=Nat.mul_le_mul_right (L.mu v 1+1) (oM:k-j+1+1<=L.M);have h4:L.mu v 1=L.b1 v:=if_pos rfl;rw[h4]at h3 ⊢;omega
   ·have m:=h.ek k oM oM;have S:L.U k=U:=by unfold nu.U;omega
    rw[S]at m;have o:=Nat.mul_le_mul_right (U*L.d) (oM:k-j+1+1<=k);have h3:=Nat.mul_le_mul_right (L.mu v U+1) (oM:k-j+1+1<=k);omega
  have r5:=f3.lo;have ac:∀w,w<v->r.deg w<=L.E:=λw Y=>by have:=f3.low hv w Y;have:=ab.1;omega
  have ad:In L.br r:=f4.mono ab.2;obtain⟨g,c1,c2,c3,c4⟩:=EE h (nL _) hX r5 ac ad;obtain⟨c5,c6⟩:=c4 b;obtain⟨F,C,a1,R⟩:=jA c2 b;have i:=bZ a1;have Z:F.lo (v+1):=qK R i C r5;have ax:g.deg v=0:=qp c2.f R;have b6:F.deg v=r.deg v:=by rw[C,deg_mul R i,ax];omega
  have ba:2<=j:=oM;have N:2<=L.U j/\L.U j<=2*L.M:=by unfold nu.U;omega
  have av:((L.U j:Nat):Int)+2*y.deg v=2*(L.M:Int)+2:=by rw[hj];unfold nu.U;omega
  obtain⟨s1,s2,s3,s4⟩:=h.sg (L.U j) oM N.1;have ag:(y.lc v)^s'*x=t*y+g*F:=by rw[<-C];exact K
  obtain⟨m1,m2⟩:=AY hv hS y0 I W R c2.f ag oM i a1 Z p0 q0 lp lq hp hq ip iq hm hn hyp hyq oM s1 s2 rfl s3 s4;have aq:L.l2 (L.U j)+L.b1 v+L.xi (L.U j)+L.kap (L.U j)=L.mu v (L.U j):=by rw[nu.mu,if_neg oM]
  rw[aq]at m2;have b5:L.mu v (L.U j)<=L.mu v (2*L.M):=zb h oM N.2 (nL _)
  have a8:In (L.br+L.mu v (L.U j)) F:=by
   have e1:hd r=hd F:=by rw[C,xE R i,c3 R,Rat.one_mul]
   have o:=(ad.hd b).mul m2;rwa[e1,<-si i]at o
  have bd:=h8.x1;have aw:bx (dW v L.E L.M)<=10000:=uw hv (by have:=h.dE.2.2.1;omega) (nL _) h.bP;have oU:Dg (dW v L.E L.M) r:=ui r5 ac oM;have aE:QG G r.l v (nrm F).l:=IP b c1 (C.trans (jC g F)) oU a8 c6 aw oM hv;have a5:nrm F≠0:=MX i;obtain⟨a0,al⟩:=eu i
  have D:∀w,(nrm F).deg w=F.deg w:=λw=>by have m:=dvd_deg i a0 w;have o:=dvd_deg a5 al w;omega
  have ay:=yU i
  have au:Sq v p q y (nrm F):=by refine hS.step y0 I W (e:=g*c (hd F)) (mul_ne R (zR ay)) (wR c2.f (ow _ v)) (t:=t) ?_ (by rw[D];omega);rw[ag];have m:g*c (hd F)*nrm F=g*(c (hd F)*nrm F):=gR;rw[m,<-si i]
  obtain⟨s,b2,b3,J⟩:=OU h h8 hX hN p0 q0 lp lq hp hq ip iq hm hn n y (nrm F) (L.U j) (by rw[D];omega) au py (jT a1 a0) ly (MZ Z)
   (λw Y=>by
    have m:=dy w Y;have o:U*L.d<=L.U j*L.d:=Nat.mul_le_mul_right _ (by rcases hUc with e|⟨e,_⟩<;>omega)
    omega)
   (λw Y=>by rw[D];exact m1 w Y) (iy.mono (zb h hU1 (by rcases hUc with e|⟨e,_⟩<;>omega) N.2)) m2 oM N.2 (.inr ⟨av,by rw[D];omega⟩) (by rw[D];omega) (by rw[D];omega) oM (by rw[D];omega) (by rw[D];omega)
  have b4:g.lo v:=qh (gV b (by rw[C];exact dvd_mul_right _ _) r5) c2.f;refine⟨s,B _ _ aE b2,b3,H s (jT py J.l) J.l ?_,J.l,λd m o=>J.u d o (dvd_trans ?_ al)⟩
  ·rw[C];exact dvd_mul_of' (dvd_trans J.r a0) g
  ·exact fA HG hv Z (jT py o) b4 R (by rw[<-C];exact hrem d m o)
theorem Gz{x y:List Nat}(h:y.length<=x.length):nQ x y=iO fuel x y:=by unfold nQ;rw[if_neg oM]
theorem TL{a b:List aj}{v t:Nat}{x y:List Nat}(h:aD b v<=aD a v)(d:ji a v t=some x)(e:ji b v t=some y):y.length<=x.length:=by rw[BQ d,BQ e];omega
theorem Aj{a b:List aj}{v:Nat}(h:aD b v<=aD a v)(ha:aD a v+1<fuel):∀l,∃m,kY a b v l=some m
 | []=>⟨_,rfl⟩
 | k::l=>by
  have d:=ug (a:=a) (b:=b) (v:=v) ha oM (k::l);rw[kY];rw[kH]at d;split
  ·rename_i x y e i;rw[e,i]at d;simp only at d;split
   ·rename_i hf;rw[if_pos hf,Gz (TL h e i)]at d;exact d
   ·exact Aj h ha l
  ·exact Aj h ha l
theorem xH{v:Nat}(hv:v<4){a b d:MP}(ha:a≠0)(hb:b≠0)(lv:b.deg v<=a.deg v)(j:∀m∈a.l,∀w,m.1.get w<18446744073709551616)(o:∀m∈b.l,∀w,m.1.get w<18446744073709551616)(e:d∣a)(i:d∣b) :
  ∀{l:List Nat}{m:Int},kY a.l b.l v l=some m->d.deg v<=m
 | [],m,h=>by simp only[kY,sJ]at h;have r:=dvd_deg ha e v;have e1:a.deg v=aD a.l v:=rfl;omega
 | k::l,m,h=>by
  rw[kY]at h;split at h
  ·rename_i x y p q;split at h
   ·rename_i hf;rw[Bool.and_eq_true]at hf;rw[<-Gz (TL lv p q)]at h
    cases hs:nQ x y with
    | none=>rw[hs]at h;cases h
    | some n =>
     rw[hs]at h;have h:some ((n:Int)-1)=some m:=h;have h:=Option.some.inj h;have:=Gj hv ha hb j o e i p hf.1 q hf.2 hs;omega
   ·exact xH hv ha hb lv j o e i h
  ·exact xH hv ha hb lv j o e i h
theorem OV{v:Nat}{a b:MP}(h:0<a.deg v\/0<b.deg v)(i:a.lo (v+1))(lb:b.lo (v+1)):∀n,n<=4->v<n->xG a.l b.l n=(v:Int)
 | 0,_,h=>by omega
 | n+1,hn,hv=>by
  rw[xG];have e1:∀w,a.deg w=aD a.l w:=λ_=>rfl;have d:∀w,b.deg w=aD b.l w:=λ_=>rfl;rcases Nat.eq_or_lt_of_le (oM:v<=n)with e|hlt
  ·subst e;rw[e1,d]at h;rw[if_neg oM]
  ·have j:a.deg n<=0:=i n oM oM;have k:b.deg n<=0:=lb n oM oM;rw[e1]at j;rw[d]at k;rw[if_pos oM];exact OV h i lb n oM hlt
theorem KT{a b:MP}(d:a.lo 0)(lb:b.lo 0):∀n,n<=4->xG a.l b.l n=-1
 | 0,_=>rfl
 | n+1,hn=>by have h:a.deg n<=0:=d n oM oM;have i:b.deg n<=0:=lb n oM oM;have e1:a.deg n=aD a.l n:=rfl;have e:b.deg n=aD b.l n:=rfl;rw[xG,if_pos oM];exact KT d lb n oM
theorem OW{v pb:Nat}{L:nu}(h:qO v L)(J:V5 v L pb){G:mE}(S:Bj (dW v L.E 0) L.bE G)(R:YV G)
  {p q:MP} (H:p.prim v) (I:q.prim v) (nq:hd q=1) (dp:Dg (dW v L.d L.M) p) (dq:Dg (dW v L.d L.M) q) (ip:In (L.b1 v) p) (O:In (L.b1 v) q) (j:q.deg v<=p.deg v) (wp:W8 p.l) (wq:W8 q.l) :
  ∃e,kY p.l q.l v [0,1,2]=some e/\∃z:MP,jw z p q/\In (L.mu v (2*L.M)) z/\(e=0/\z=1\/e≠0/\∃N,Bi G v N p.l q.l z.l):=by
 have hv:=h.hv;have F:=bZ H;have s:=bZ I;have K:=dp.top hv;have y:=dq.top hv;have X:=h.fl;have e1:aD p.l v=p.deg v:=rfl;have e2:aD q.l v=q.deg v:=rfl;have u:L.mu v 1=L.b1 v:=if_pos rfl;have Y:L.b1 v<=L.mu v (2*L.M):=by rw[<-u];exact zb h (nL _) (by have:=h.dE.2.2.2;omega) (nL _)
 obtain⟨e,k⟩:=Aj (a:=p.l) (b:=q.l) (v:=v) oM oM [0,1,2];have hex:∀p:MP,W8 p.l->∀m∈p.l,∀w,m.1.get w<18446744073709551616:=λp hp m hm w=>by have:=hp.exps m hm w;omega
 have n:∀d:MP,d∣p->d∣q->d.deg v<=e:=λd r x=>xH hv F s j (hex p wp) (hex q wq) r x k;refine⟨e,k,?_⟩;by_cases i:e=0
 ·exact⟨1,⟨unit_dvd unit_one p,unit_dvd unit_one q,λd r x=>H d (by have:=n d r x;show d.deg v<=0;omega) r⟩,In.one _,.inl ⟨i,rfl⟩⟩
 have Z:=deg_pos s v;by_cases C:q.deg v<=0
 ·have o:q.unit:=I q C (dvd_refl q);have hq:q=1:=Ej s o (unit_dvd unit_one q) nq qI;have B:=h.bP;have W:=h.dE;refine⟨1,xD (.inr o),In.one _,.inr ⟨i,2,?_⟩⟩;rw[hq];exact KS hv F dp ip (Nat.le_trans (Nat.mul_le_mul_left _ (Nat.pow_le_pow_left oM v)) B) (by have:=J.w1;omega) 0
 ·obtain⟨z,z1,z2,z3⟩:=OU h J S R F s dp.lo dq.lo (dp.low hv) (dq.low hv) ip O K y (L.M+3) p q 1 oM .base H I dp.lo dq.lo
   (λw D=>by have:=dp.low hv w D;omega) (λw D=>by have:=dq.low hv w D;omega) (by rw[u];exact ip) (by rw[u];exact O) (nL _) (by have:=h.dE.2.2.2;omega) (.inl rfl) oM j K j (Int.le_refl _)
  exact⟨z,z3,z2,.inr ⟨i,_,z1⟩⟩
theorem OX{d:Nat->Nat}{b k:Nat}{p q:MP}(e:p≠0)(i:q≠0)(h:Dg d (p*q))(ip:In b p)(o:In k q)(n:bx d<=10000)(hb:b+k<7900000000):xA p.l q.l:=by
 refine ul (dp:=λw=>(p.deg w).toNat) (dq:=λw=>(q.deg w).toNat) (λw _=>?_) (λw _=>?_) (d:=d) (λw m=>?_) ip o n hb
 ·show p.deg w<=((p.deg w).toNat:Int);have:=deg_pos e w;omega
 ·show q.deg w<=((q.deg w).toNat:Int);have:=deg_pos i w;omega
 ·have j:=h w m;rw[deg_mul e i]at j;have:=deg_pos e w;have:=deg_pos i w;show(p.deg w).toNat+(q.deg w).toNat<=d w;omega
theorem V6(G:mE):YV (Gy G):=λd b x e i h hb=>.inl ⟨rfl,pQ e i h hb⟩
theorem vM{g z a b:MP}(hz:z.unit)(h:jw (g*z) a b):jw g a b :=
 ⟨dvd_trans (dvd_mul_right _ _) h.l,dvd_trans (dvd_mul_right _ _) h.r,λd i j=>dvd_trans (h.u d i j) (by
  have e:g*1=g:=gR;have:=mul_dvd (dvd_refl g) hz
  rwa[e]at this)⟩
theorem KU{v pb:Nat}{L:nu}(h:qO v L)(h8:V5 v L pb){G:mE}(hX:Bj (dW v L.E 0) L.bE G)(hN:YV G)(a6:Bj (dW v L.E 0) L.bE (Gy G)):Bj (dW v L.d L.M) L.b (Gy G):=λa b da D ia ib=>by
 have hv:=h.hv;have HG:=oI v oM;have W:=h.dE;have aa:=h8.x2;have k:bx (dW v L.d L.M)<=10000:=uw hv oM (nL _) h.bP;have av:L.b<=L.b1 v:=by unfold nu.b1;split<;>omega
 have I:L.b<7900000000:=oM;have a3:L.b<=L.bE:=by unfold nu.bE;omega
 have low0:∀p:MP,Dg (dW v L.d L.M) p->p.deg v<=0->Dg (dW v L.E 0) p:=λp dp hp=>ui dp.lo (λw hw=>by have:=dp.low hv w hw;omega) hp;by_cases a5:a.deg v<=0/\b.deg v<=0
 ·exact a6 a b (low0 a da a5.1) (low0 b D a5.2) (ia.mono a3) (ib.mono a3)
 by_cases m:a=0
 ·refine⟨nrm b,.inl ⟨zero_iff.1 m,pQ D ib k I⟩,?_,λC=>jY λh0=>C (by rw[h0,jV])⟩;by_cases hb:b=0
  ·rw[hb,jV,m];exact⟨dvd_refl _,dvd_refl _,λd h _=>h⟩
  ·exact⟨by rw[m];exact dvd_zero _,(eu hb).1,λd _ h=>dvd_trans h (eu hb).2⟩
 have na:a.l≠[]:=λe=>m (zero_iff.2 e);by_cases b0:b=0
 ·exact⟨nrm a,.inr (.inl ⟨na,zero_iff.1 b0,pQ da ia k I⟩),⟨(eu m).1,by rw[b0];exact dvd_zero _,λd h _=>dvd_trans h (eu m).2⟩,λ_=>jY m⟩
 have nb:b.l≠[]:=λe=>b0 (zero_iff.2 e);have wa:=jE da ia k I;have wb:=jE D ib k I;have a9:xG a.l b.l 4=(v:Int):=OV oM da.lo D.lo 4 oM hv;have R:∀p:MP,Dg (dW v L.d L.M) p->∀w,w<v->p.deg w<=L.E:=λp dp w hw=>by have:=dp.low hv w hw;omega
 obtain⟨x,x1,x2,x3,x4⟩:=EE h W.2.1 hX da.lo (R a da) ia;obtain⟨y,y1,y2,y3,y4⟩:=EE h W.2.1 hX D.lo (R b D) ib;obtain⟨x5,x6⟩:=x4 m;obtain⟨y5,y6⟩:=y4 b0;have J:L.cz v L.b<=L.bE:=OE W.2.1;obtain⟨g,ag,hg⟩:=hX x y x5 y5 (x6.mono J) (y6.mono J);obtain⟨p,S,pp,x0⟩:=jA x2 m;obtain⟨q,eq,pq,y0⟩:=jA y2 b0;have p0:=bZ pp;have q0:=bZ pq
 have ab:∀z:MP,v=0->hd z=1->Dg (dW v L.E 0) z->z=1:=λz e j o=>by
  subst e;obtain⟨r,rfl⟩:=kL o.lo0;have hr:r≠0:=λe=>by rw[e,Cm]at j;cases j
  have a2:=wD hr 1;have ad:c r*1=c r:=gR;rw[ad,j,qI,Rat.one_mul]at a2;rw[<-a2,Aw]
 have ip:=wF h m da.lo da ia S (x3 x0) (λe=>ab x e (x3 x0) x5);have iq:=wF h b0 D.lo D ib eq (y3 y0) (λe=>ab y e (y3 y0) y5);have al:QG G a.l v (nrm p).l:=IP m x1 (S.trans (jC x p)) da ip x6 k aa hv;have an:QG G b.l v (nrm q).l:=IP b0 y1 (eq.trans (jC y q)) D iq y6 k aa hv;obtain⟨X,ap⟩:=eu p0;obtain⟨Y,aq⟩:=eu q0;have dp:Dg (dW v L.d L.M) (nrm p):=(da.dvd m ⟨x,S.trans (jC x p)⟩).dvd p0 X;have dq:Dg (dW v L.d L.M) (nrm q):=(D.dvd b0 ⟨y,eq.trans (jC y q)⟩).dvd q0 Y;have wp:=jE dp ip.nrm k oM;have wq:=jE dq iq.nrm k oM;have Z:=jT pp X;have a1:=jT pq Y
 -- in either order
 have a8:∃(s t:MP)(F:Int)(z:MP),(aD (nrm p).l v<aD (nrm q).l v/\s=nrm q/\t=nrm p\/¬aD (nrm p).l v<aD (nrm q).l v/\s=nrm p/\t=nrm q)/\kY s.l t.l v [0,1,2]=some F/\jw z (nrm p) (nrm q)/\In (L.mu v (2*L.M)) z/\(F=0/\z=1\/F≠0/\∃N,Bi G v N s.l t.l z.l):=by
  rcases Int.lt_or_le ((nrm p).deg v) ((nrm q).deg v)with hlt|lv
  ·obtain⟨F,j,z,o,h3,h4⟩:=OW h h8 hX hN a1 Z (jY p0) dq dp iq.nrm ip.nrm oM wq wp;exact⟨_,_,F,z,.inl ⟨hlt,rfl,rfl⟩,j,Em o,h3,h4⟩
  ·obtain⟨F,j,z,o,h3,h4⟩:=OW h h8 hX hN Z a1 (jY q0) dp dq ip.nrm iq.nrm lv wp wq;exact⟨_,_,F,z,.inr ⟨Int.not_lt.2 lv,rfl,rfl⟩,j,o,h3,h4⟩
 obtain⟨s,t,F,z,s1,s2,s3,s4,s5⟩:=a8;have K:jw z p q:=⟨dvd_trans s3.l X,dvd_trans s3.r Y,λd j o=>s3.u d (dvd_trans j ap) (dvd_trans o aq)⟩;have lp:=qK x0 p0 S da.lo;have lq:=qK y0 q0 eq D.lo;have lx:x.lo v:=qh (gV m (by rw[S];exact dvd_mul_right _ _) da.lo) x2.f;have ly:y.lo v:=qh (gV b0 (by rw[eq];exact dvd_mul_right _ _) D.lo) y2.f
 have B:jw (g*z) a b:=by
  refine⟨by rw[S];exact mul_dvd hg.i.l K.l,by rw[eq];exact mul_dvd hg.i.r K.r,λd j o=>?_⟩;have d0:=dvd_ne m j;obtain⟨e,u,rfl,he,au,ac,lz,_⟩:=kN HG hv (gV m j da.lo) d0;have a4:e.fr v:=he v (nL _) hv;refine mul_dvd (hg.i.u e ?_ ?_) (K.u u ?_ ?_)
  ·exact x2.u e a4 (dvd_trans (dvd_mul_right _ _) j)
  ·exact y2.u e a4 (dvd_trans (dvd_mul_right _ _) o)
  ·exact fA HG hv lp ac lx x0 (by rw[<-S];exact dvd_trans (dvd_mul_left _ _) j)
  ·exact fA HG hv lq ac ly y0 (by rw[<-eq];exact dvd_trans (dvd_mul_left _ _) o)
 have C:=jW B m;have g0:=dvd_ne x0 hg.i.l;have z0:z≠0:=λe=>C (by rw[e];grind);have ar:L.cz v L.b<=L.bE:=J
 have ig:In L.bE g:=by obtain⟨j,o⟩:=Ah h da.lo (R a da) ia (a.deg v).toNat;have h3:g∣a.lc v:=dvd_trans hg.i.l ((dvd_iff_co x2.f a).1 x2.d _);exact(su h (hg.n g0) (lc_ne m v) h3 j o).2.mono J
 have O:=h8.fin;have H:Dg (dW v L.d L.M) (g*z):=da.dvd m B.l;have dg:Dg (dW v L.d L.M) g:=H.dvd C (dvd_mul_right _ _);have dz:Dg (dW v L.d L.M) z:=H.dvd C (dvd_mul_left _ _);have wz:=jE dz s4 k oM;have a7:qM g.l (nrm g).l:=pQ dg ig k oM
 have key:∃r:MP,NG r a b/\(F=0/\qM g.l r.l\/F≠0/\∃(N:Nat)(z:List aj),Bi G v N s.l t.l z/\z.length<=100000000/\(aD z v<1/\qM g.l r.l\/¬aD z v<1/\xA g.l z/\qM (aZ g.l z) r.l)):=by
  rcases s5 with ⟨j,o⟩|⟨j,N,o⟩
  ·exact⟨nrm g,⟨qd (vM (by rw[o];exact unit_one) B) g0,λ_=>jY g0⟩,.inl ⟨j,a7⟩⟩
  ·by_cases hz:z.deg v<1
   ·have ao:z.unit:=pp z (by show z.deg v<=0;omega) K.l;exact⟨nrm g,⟨qd (vM ao B) g0,λ_=>jY g0⟩,.inr ⟨j,N,z.l,o,wz.w.len,.inl ⟨hz,a7⟩⟩⟩
   ·exact⟨nrm (g*z),⟨qd B C,λ_=>jY C⟩,.inr ⟨j,N,z.l,o,wz.w.len,.inr ⟨hz,OX g0 z0 H ig s4 k O,pQ H (ig.mul s4) k O⟩⟩⟩
 obtain⟨r,hr,hk⟩:=key;refine⟨r,.inr (.inr ⟨na,nb,wa,wb,.inr ⟨v,x.l,y.l,g.l,(nrm p).l,(nrm q).l,s.l,t.l,F,hv,a9,x1,y1,ag,al,an,wp,wq,λe=>bZ Z (zero_iff.2 e),λe=>bZ a1 (zero_iff.2 e),?_,s2,hk⟩⟩),hr⟩;rcases s1 with ⟨j,rfl,rfl⟩|⟨j,rfl,rfl⟩
 ·exact .inl ⟨j,rfl,rfl⟩
 ·exact .inr ⟨j,rfl,rfl⟩
theorem Bj.mono{d d':Nat->Nat}{b e:Nat}{G:mE}(h:Bj d b G)(hd:∀w,d' w<=d w)(hb:e<=b):Bj d' e G:=λx y i j k l=>h x y (i.mono hd) (j.mono hd) (k.mono hb) (l.mono hb)
theorem GD{b:Nat}(hb:b<7900000000){d:Nat->Nat}(hd:∀w,w<4->d w=0)(G:mE):Bj d b (Gy G):=λx y k m p q=>by
 have i:bx d<=10000:=by unfold bx;rw[hd 0,hd 1,hd 2,hd 3]<;>omega
 have lo:∀z:MP,Dg d z->z.lo 0:=λz dz w _ o=>by have:=dz w o;rw[hd w o]at this;exact this
 by_cases j:x=0
 ·refine⟨nrm y,.inl ⟨zero_iff.1 j,pQ m q i hb⟩,?_,λn=>jY λh0=>n (by rw[h0,jV])⟩;by_cases hb:y=0
  ·rw[hb,jV,j];exact⟨dvd_refl _,dvd_refl _,λd h _=>h⟩
  ·exact⟨by rw[j];exact dvd_zero _,(eu hb).1,λd _ h=>dvd_trans h (eu hb).2⟩
 have r:x.l≠[]:=λe=>j (zero_iff.2 e);by_cases b0:y=0
 ·exact⟨nrm x,.inr (.inl ⟨r,zero_iff.1 b0,pQ k p i hb⟩),⟨(eu j).1,by rw[b0];exact dvd_zero _,λd h _=>dvd_trans h (eu j).2⟩,λ_=>jY j⟩
 have B:y.l≠[]:=λe=>b0 (zero_iff.2 e);obtain⟨s,es⟩:=kL (lo x k);have u:s≠0:=λe=>j (by rw[es,e,Cm]);refine⟨1,.inr (.inr ⟨r,B,jE k p i hb,jE m q i hb,.inl ⟨by rw[KT (lo x k) (lo y m) 4 oM];omega,pO.symm⟩⟩),xD (.inl (by rw[es];exact zo u)),λ_=>qI⟩
theorem EF{L:Nat->nu}{pb:Nat->Nat}:∀(v:Nat),Zf L v->(∀w,w<=v->V5 w (L w) (pb w))->∀n,Bj (dW v (L v).d (L v).M) (L v).b (qZ (n+v+2))
 | 0,h,h8,n=>by
  have h0:qO 0 (L 0):=h;have hz:∀w,w<4->dW 0 (L 0).E 0 w=0:=λw _=>by unfold dW;rw[if_neg oM];split<;>rfl
  have hb:(L 0).bE<7900000000:=by have:=(h8 0 (nL _)).fin;omega
  exact KU h0 (h8 0 (nL _)) (GD hb hz (qZ n)) (V6 _) (GD hb hz (qZ (n+1)))
 | v+1,h,h8,n=>by
  obtain⟨p,q,r,k,l⟩:=h
  have hd:∀w,dW (v+1) (L (v+1)).E 0 w<=dW v (L v).d (L v).M w:=λw=>by
   unfold dW;by_cases e:w<v
   ·rw[if_pos oM,if_pos e];exact q
   ·by_cases i:w=v
    ·rw[if_pos oM,if_neg e,if_pos i];exact r
    ·rw[if_neg oM,if_neg e,if_neg i];split<;>exact nL _
  have g1:=(EF v l (λw s=>h8 w oM) n).mono hd k;have j:=(EF v l (λw s=>h8 w oM) (n+1)).mono hd k;have e1:n+(v+1)+2=(n+v+2)+1:=oM;have m:n+1+v+2=(n+v+2)+1:=oM;rw[m]at j;rw[e1];have o:n+v+2=(n+v+1)+1:=oM;exact KU p (h8 (v+1) (nL _)) g1 (by rw[o];exact V6 _) j
def YX (v:Nat) (L:nu) (pb:Nat):Bool :=
 decide ((L.M+1)*(L.b1 v+1)<=pb)&&decide (∀k,k<L.M+1->2<=k->(k+1)*(L.mu v (L.U k)+1)<=pb)&&decide (pb+(if v=0 then 0 else pb)<7900000000)&&decide (L.br+L.mu v (2*L.M)+L.cz v L.br<7900000000)&&decide (L.b1 v+L.cz v L.b<7900000000)&&decide (L.bE+L.mu v (2*L.M)<7900000000)&&decide (L.mu v (2*L.M)+(L.M+1)<7900000000)
theorem OY{v pb:Nat}{L:nu}(h:YX v L pb=true):V5 v L pb:=by simp only[YX,Bool.and_eq_true,decide_eq_true_eq]at h;obtain⟨⟨⟨⟨⟨⟨b,d⟩,e⟩,i⟩,j⟩,k⟩,l⟩:=h;exact⟨b,d,e,i,j,k,l⟩
def pb8:Nat->Nat
 | 0=>7200000000
 | _=>1000000
theorem TM{v:Nat}{G:mE}{a g q:MP}{d:Nat->Nat}{b k:Nat}(j:a≠0)(hc:nz G (aB a.l v) [] g.l)(e:a=q*g)
  (ha:Dg d a) (x:In b q) (y:In k g) (u:bx d<=10000) (hb:b+k<7900000000):Gx G a.l v q.l:=by
 have n:q≠0:=λh=>j (by rw[e,h];grind);have i:g≠0:=λh=>j (by rw[e,h];grind)
 have r:∀w,w<4->(q.deg w).toNat+(g.deg w).toNat<=d w:=λw s=>by have m:=ha w s;rw[e,deg_mul n i]at m;have:=deg_pos n w;have:=deg_pos i w;omega
 obtain⟨t,l,o⟩:=je i;obtain⟨m,p⟩:=IM o (dq:=λw=>(q.deg w).toNat) (dz:=λw=>(g.deg w).toNat) (λw _=>by show q.deg w<=((q.deg w).toNat:Int);have:=deg_pos n w;omega) (λw _=>by show g.deg w<=((g.deg w).toNat:Int);have:=deg_pos i w;omega) r x y u hb;exact .inr ⟨λh=>j (zero_iff.2 h),t,l,q.l.length,by rw[<-o];exact hc,m,by rw[e];exact p⟩
def L6:Nat->nu
 | 0=>YM 0 144 144 133353 1513728 1402101226 1534752
 | _=>YM 1 6 6 1420 144 130617 192
theorem ZH:qO 0 (L6 0):=TB dK
theorem ZI:qO 1 (L6 1):=TB dK
theorem V7:Zf L6 1:=⟨ZI,dK,dK,dK,ZH⟩
def D6:Nat->Nat:=dW 1 6 6
def ZJ:Nat->Nat
 | 0=>1421572070
 | _=>174152
theorem Z7:∀w,w<=1->V5 w (L6 w) (ZJ w):=λw d=>by
 have h0:V5 0 (L6 0) (ZJ 0):=OY dK;have b:V5 1 (L6 1) (ZJ 1):=OY dK;rcases w with _|_|w
 ·exact h0
 ·exact b
 ·omega
theorem TN{a b:MP}(da:Dg D6 a)(h:Dg D6 b)(j:In 1420 a)(k:In 1420 b):∃g:MP,uz 6 a.l b.l=some g.l/\qZ 6 a.l b.l g.l/\NG g a b:=by obtain⟨r,i⟩:=M9 1 V7 3 a b da h j k;obtain⟨g,rfl,hg⟩:=ze 6 a b r i;obtain⟨m,e,d⟩:=EF 1 V7 Z7 3 a b da h j k;obtain rfl:=d.eq hg;exact⟨m,i,e,hg⟩
theorem XI:bx D6=49:=dK
theorem AZ:qN D6 2<=2^102:=dK
theorem Xz:qN (λw=>D6 w+D6 w) 2<=2^248:=dK
theorem IQ:D6 0=6/\D6 1=6/\D6 2=0/\D6 3=0:=dM
theorem A7{p:MP}(h:Dg D6 p):p.lo 2:=h.lo
theorem V8:∀(l:List (List aj))(b:MP),(∀c∈l,∃f:MP,f.l=c/\Dg D6 f/\In 12 f)->(b=0\/(hd b=1/\∃F:MP,F≠0/\b∣F/\Dg D6 F/\In 12 F)) ->
  (∃r,vB (uz 6) b.l l=some r)/\∃g:MP,nz (qZ 6) l b.l g.l/\g∣b/\(∀f:MP,f.l∈l->g∣f)/\(∀d,d∣b->(∀f:MP,f.l∈l->d∣f)->d∣g)/\(g≠0->hd g=1)
 | [],b,_,ha=>⟨⟨_,rfl⟩,b,rfl,dvd_refl _,λf hf=>(by cases hf),λd h _=>h,λh0=>ha.elim (λe=>absurd e h0) λe=>e.1⟩
 | c::l,b,hl,ha=>by
  obtain⟨f,rfl,z,hf⟩:=hl c sM
  have j:Dg D6 b/\In 1420 b:=by
   rcases ha with e|⟨x,F,q,m,p,E⟩
   ·rw[e];exact⟨λw _=>by rw[deg_zero];omega,In.zero _⟩
   ·have:=(E.fac oM q m (A7 p) p AZ).mono (c:=1420) oM;rw[uj x]at this;exact⟨p.dvd q m,this⟩
  obtain⟨g,G,y,hg⟩:=TN j.1 z j.2 (hf.mono oM)
  obtain⟨⟨r,C⟩,k,e,B,k2,H,I⟩:=V8 l g (λc hc=>hl c (by simp[hc])) (by
   by_cases s:g=0
   ·exact .inl s
   ·refine .inr ⟨hg.n s,?_⟩;by_cases f0:f=0
    ·rcases ha with e|⟨-,F,q,m,p⟩
     ·exact absurd (zero_dvd (hg.i.u 0 (by rw[e];exact dvd_refl 0) (by rw[f0];exact dvd_refl 0))) s
     ·exact⟨F,q,dvd_trans hg.i.l m,p⟩
    ·exact⟨f,f0,hg.i.r,z,hf⟩)
  refine⟨?_,k,⟨g.l,y,e⟩,dvd_trans B hg.i.l,λD o=>?_,λd x m=>H d (hg.i.u d x (m f sM)) λf hf=>m f (by simp[hf]),I⟩
  ·rw[vB,G];simp only;split
   ·exact⟨_,rfl⟩
   ·exact⟨r,C⟩
  rcases List.mem_cons.1 o with e|o
  ·rw[MP.eq_of e];exact dvd_trans B hg.i.r
  ·exact k2 D o
theorem YY{v:Nat}{a:MP}(hv:v<4)(da:Dg D6 a)(q:In 12 a):∃g:MP,ni (uz 6) a.l v=some g.l/\nz (qZ 6) (aB a.l v) [] g.l/\NC v g a:=by
 have p:∀c∈aB a.l v,∃f:MP,f.l=c/\Dg D6 f/\In 12 f:=λc hc=>by obtain⟨n,e⟩:=fH hc;exact⟨a.co v n,e.symm,YP da hv n,q.co v n⟩
 obtain⟨⟨r,h⟩,g,j,-,k,m,o⟩:=V8 (aB a.l v) 0 p (.inl rfl);obtain⟨i,rfl,b,d⟩:=qJ (ze 6) (a:=a) (v:=v) h;have e:i=g:=NC.eqq ⟨b,d⟩ ⟨OQ k m,o⟩;subst e;exact⟨i,h,j,b,d⟩
theorem YZ{v:Nat}{a:MP}(hv:v<4)(da:Dg D6 a)(n:In 12 a)(e:a≠0):∃p:MP,lN (uz 6) a.l v=some p.l/\Gx (qZ 6) a.l v p.l/\p.prim v/\Dg D6 p/\In 126 p/\∃g,a=g*p/\hd g=1/\g.fr v:=by
 obtain⟨k,e1,r,h⟩:=YY hv da n;have k0:=dvd_ne e h.1.d;have i:bx D6<=10000:=by rw[XI];omega
 obtain⟨p,o,s,-⟩:=jA h.1 e;have b:a=p*k:=o.trans (jC k p);have ip:In 126 p:=(n.quot oM e b (h.2 k0) (A7 da) da AZ).mono oM
 have q:In 114 k:=by have:=n.fac oM e h.1.d (A7 da) da AZ;rwa[uj (h.2 k0)]at this
 have dp:Dg D6 p:=da.dvd e ⟨k,b⟩;have j:=oF k0 b da i ip q (by rw[uq];omega)
 have m:lN (uz 6) a.l v=some p.l:=by obtain⟨t,l,el⟩:=je e;rw[el]at j e1 ⊢;rw[lN];simp only[e1];exact j
 exact⟨p,m,TM e r b da ip q i oM,s,dp,ip,k,o,h.2 k0,h.1.f⟩
end Q
end
section
namespace Q
open Go Go.RowKit Go.Proofs.YtopclbeomcggiaaGreat
def V9 (v:Nat) (t:aj):aj:=(t.1.put v (t.1.get v-1),t.2*(t.1.get v:Rat))
theorem KV(t:aj)(l:List aj)(e:Ex):cf (t::l) e=(if t.1=e then t.2 else 0)+cf l e:=by show t.2*(if t.1=e then 1 else 0)+cf l e=_;split<;>grind
theorem Ak(v:Nat):∀{p:List aj},bQ p->canon (p.map (V9 v))=aS p v:=λ{p} h=>by
 rw[<-BV (h.pder v)];refine uA λe he=>?_;have d:=h.nat;clear h
 induction p with
 | nil=>rfl
 | cons t p b =>
  have b:=b d.tail;have h0:=Ex.nat_get d.head v;unfold aS at b ⊢;rw[List.map_cons,KV,b];by_cases hz:0<t.1.get v
  ·rw[List.filter_cons_of_pos (by simpa using hz),List.map_cons,KV];rfl
  ·rw[List.filter_cons_of_neg (by simpa using hz)];have i:t.1.get v=0:=oM;have:(V9 v t).2=0:=by show t.2*(t.1.get v:Rat)=0;rw[i];show t.2*((0:Int):Rat)=0;rw[Rat.intCast_zero,Rat.mul_zero]
   rw[this];split<;>grind
theorem TP{n:Nat}(h:n<=900000):Rs ((n:Int):Rat):=by refine ve (s:=⟨1,900000,0,1⟩) dK (Dv.int 1 (n:Int)) ?_;rw[rabs_int];exact Rat.natCast_le_natCast.2 (by show(n:Int).natAbs<=900000;omega)
theorem Vu:Rs 0:=TP (n:=0) oM
theorem GG{p:List aj}(v k:Nat):(aS (p.take k) v).Sublist (aS p v):=((List.take_sublist k p).filter _).map _
end Q
namespace Go.Proofs.YtopclbeomcggiaaGreat
open Go.RowKit Q Go.WideMaps Go.Maps
theorem XA(v:Value)(l:List aj)(w:World)(h:ai w v l)(y:l.length<=100000000)(n:∀t∈l,Rs t.2)(j:∀k,∀t∈canon (l.take k),Rs t.2)(m:∀k,(canon (l.take k)).length<=100000000):Calls Tryz.prog 43 #[v] w (aP w (canon l)):=by
 obtain⟨ap,cp,rfl,z⟩:=h.shape;replace n:=zH n;replace j:=zH j;replace m:=zH m
 go_enter Tryz.func43,Tryz.ntmps43
 go_wp2;have hb0:Below w.heap.size w (w.alloc (.cells #[] aJ)):=(Below.refl _ _).alloc (nL _) _;have p:ai (w.alloc (.cells #[] aJ)) (.slice (some ⟨w.heap.size,0,none⟩) 0 0) []:=(fQ aL w).isSl;change Below w.heap.size w (w.alloc (.cells #[] 43))at hb0;change ai (w.alloc (.cells #[] 43)) _ _ at p
 go_loopw [3,4] (λo i wr=>∃k:Nat,k<=l.length/\i=.int .i64 k/\Hid (ai wr o (canon (l.take k)))/\Below w.heap.size w wr) (λ_ i _=>l.length-(intOf i).toNat)
 case atStart=>exact⟨0,oM,rfl,zH p,hb0⟩
 case round =>
  clear p hb0;obtain⟨k,B,rfl,hP,b⟩:=hrel;by_cases s:k<l.length
  ·have d:l[k]?=some l[k]:=gE s;generalize l[k]=t at d;obtain⟨u,op,q,rfl,-,hE,hC⟩:=(h.on b).get d;change bL aJ wr u (op+k*8) _ at hC;have x:(k:Int)<l.length:=oM;have hr:=hC.range;have h8:q.length=8:=aL.len hE;have r:=Dh u3 (canon (l.take k)) q t wr hP.out hE (j.out k) (n.out t (List.mem_of_getElem? d)) (m.out k);rw[<-Di d]at r
   go_wp2_with (first
    | (refine ak rfl _ _ 26 rfl aJ Tryz.underlying26 _ 8 96 kM _ _ _ rfl .i64 _ rfl k rfl s u op rfl ?_)
    | (refine wpList_load_mid rfl 43 _ rfl _ _ rfl _ _ hr Tryz.underlying43 rfl (by rw[h8];kernel_rfl) ?_)
    | (go_at_call 82;refine r.mono ?_;rintro en w3 ⟨v3,rfl,hv3,hb3⟩))
   go_roundw
   case rel=>exact⟨k+1,oM,nM,zH hv3,b.trans (hb3.mono b.size)⟩
   case measure=>simp[intOf];omega
  ·obtain rfl:k=l.length:=oM;rw[tL (nL _)]at hP;go_wp2;go_ret;exact⟨_,rfl,hP.out,b⟩
theorem um(vp:Value)(p:List aj)(v:Nat)(w:World)(hp:ai w vp p)(hv:v<4)(kp:W8 p)(kd:Wr (aS p v)):Calls Tryz.prog 32 #[vp,.int .i64 v] w (aP w (aS p v)):=by
 obtain⟨ap,cp,rfl,al⟩:=hp.shape
 have X:=zH (λW u (hu:ai W u (p.map (V9 v)))=>Ak v kp.w.v▸XA u (p.map (V9 v)) W hu (by rw[List.length_map];exact kp.w.len) (λt L=>by
  obtain⟨s,hs,rfl⟩:=List.mem_map.1 L;have h0:=kp.exps s hs v;by_cases hz:0<s.1.get v
  ·exact kd.rs _ (List.mem_map.2 ⟨s,List.mem_filter.2 ⟨hs,by simpa using hz⟩,rfl⟩)
  ·have hx:s.1.get v=0:=oM;show Rs (s.2*(s.1.get v:Rat));rw[hx]
   show Rs (s.2*((0:Int):Rat));rw[Rat.intCast_zero,Rat.mul_zero];exact Vu) (λk t L=>by
  rw[<-List.map_take,Ak v (kp.w.v.sublist (List.take_sublist k p))]at L
  exact kd.rs t ((GG v k).subset L)) (λk=>by
  rw[<-List.map_take,Ak v (kp.w.v.sublist (List.take_sublist k p))]
  exact Nat.le_trans (GG v k).length_le kd.len))
 have ad:=kp.w.len;have a4:=zH kp.w.rs;have hex:=zH (λt L=>kp.exps t L v);have hv4:(v:Int)<4:=oM;clear kp kd
 go_enter Tryz.func32,Tryz.ntmps32
 go_wp2;have hb0:Below w.heap.size w (w.alloc (.cells #[] aJ)):=(Below.refl _ _).alloc (nL _) _;have J:bR w.heap.size (w.alloc (.cells #[] aJ)) (.slice (some ⟨w.heap.size,0,none⟩) 0 0) []:=fQ aL w;change Below w.heap.size w (w.alloc (.cells #[] 43))at hb0;change bR w.heap.size (w.alloc (.cells #[] 43)) _ _ at J;replace hp:=zH hp
 go_loopw [5,6] (λo i wr=>∃k:Nat,k<=p.length/\i=.int .i64 k/\Hid (bR w.heap.size wr o ((p.take k).map (V9 v)))/\Below w.heap.size w wr) (λ_ i _=>p.length-(intOf i).toNat)
 case atStart=>exact⟨0,oM,rfl,zH J,hb0⟩
 case round =>
  clear J hb0;obtain⟨k,hk,rfl,b,hb⟩:=hrel;by_cases N:k<p.length
  ·clear X;have D:p[k]?=some p[k]:=gE N;obtain⟨a1,a0,cs,rfl,-,hE,hC⟩:=(hp.out.on hb).get D;generalize p[k]=t at D hE;have z:=yC (V9 v) D;obtain⟨e,q⟩:=t;obtain⟨r,rfl,n1,x1,k1,d1,n2,x2,k2,d2,rfl,i1,i2⟩:=hE;have hr:=hC.range;have ac:(k:Int)<p.length:=oM;have l:=List.mem_of_getElem? D;have F:=zH (show bO wr (.agg #[.bool n1,.slice x1 k1 d1,.bool n2,.slice x2 k2 d2]) q from⟨n1,x1,k1,d1,n2,x2,k2,d2,rfl,i1,i2⟩);have S:=a4.out _ l;have a8:=hex.out _ l;simp only at S a8 z
   have a7:Rs ((Ex.get e v:Int):Rat):=by obtain⟨n,hn⟩:∃n:Nat,Ex.get e v=n:=⟨(Ex.get e v).toNat,oM⟩;rw[hn];exact TP oM
   have hd:V9 v (e,q)=(e.put v (e.get v - 1),q*((e.get v:Int):Rat)):=rfl;rw[hd]at z;have C:=oK e v hv;have y:=tH e v hv (Ex.get e v - 1);have a3:Ex.get e v=Ex.get e v:=rfl;generalize hE':Ex.put e v (Ex.get e v - 1)=E' at *;generalize hx:Ex.get e v=x at *;clear hC i1 i2 hE' hx a3 hd l;replace z:=zH z;obtain⟨e1,e2,e3,e4⟩:=e;simp only[bD,List.cons_append,List.nil_append]at hr C y
   go_upto_region 6 with (first
    | (refine ak rfl _ _ 27 rfl aJ Tryz.underlying27 _ 8 96 kM _ _ _ rfl .i64 _ rfl k rfl N a1 a0 rfl ?_)
    | (refine wpList_load_mid rfl 43 _ rfl _ _ rfl _ _ hr Tryz.underlying43 rfl kM ?_))
   refine jg λW2 hb2 B hsz2=>?_;have hown2:=zH (b.out.on hb2);have G:=b.out.base_le;have hbW2:=hb.trans (hb2.mono hb.size);have hrat2:=F.out.on hb2;have Z:w.heap.size<=wr.heap.size:=hb.size;have a9:∀g,u5.ownBlock=some g->g<wr.heap.size:=λg hg=>(G g hg).2;have d:∀g,u5.ownBlock=some g->w.heap.size<=g:=λg hg=>(G g hg).1;clear hb2 b hr F hb hsz2 G;generalize wr.heap.size=r at *;have f1:∀W',Below W2.heap.size W2 W'->W'.cell? ⟨r,v,none⟩=some (.int .i64 x):=λW' h=>(B.on h).at1 v _ (C [.bool n1,.slice x1 k1 d1,.bool n2,.slice x2 k2 d2]);have ab:IntKind.i64.wrap (x-1)=x-1:=lI oM;have I:u5.ownBlock≠some r:=λh=>by have:=a9 r h;simp at this
   refine aC mixed (none) (0) (fM.none) [.eq (.pointer (some ⟨r,4,none⟩)),.eq (.agg #[.bool n1,.slice x1 k1 d1,.bool n2,.slice x2 k2 d2]),.eq (.int .i64 v),.eq (.pointer (some ⟨r,0,none⟩)),.eq (.pointer (some ⟨r,v,none⟩)),.eq (.int .i64 x),.rat dM ((x:Rat)),.rat dM ((q*(x:Rat))),.eq (.pointer (some ⟨r,4,none⟩))] [19,20,21,22,23,24,25,26,27] rfl rfl rfl rfl ⟨λA _ hA _ _ _=>have h7:A.eval (.tmp 7)=.pointer (some ⟨r,0,none⟩):=hA 7 rfl;pZ rfl,λA _ _ hL _ he=>have hb:=hL.below;have h19:=eT 19 (he.1 rfl);have c0:=((B).on hb).at1 4 _ rfl;have c1:=((B).on hb).at1 5 _ rfl;have c2:=((B).on hb).at1 6 _ rfl;have c3:=((B).on hb).at1 7 _ rfl;pZ rfl,λ_ _ a _ _ _=>xM rfl (a 1 rfl),λA _ hA _ _ _=>have h7:A.eval (.tmp 7)=.pointer (some ⟨r,0,none⟩):=hA 7 rfl;pZ rfl,λA _ _ _ _ he=>have h22:=eT 22 (he.1 rfl);have h21:=eT 21 (he.2.1 rfl);pZ rfl,?_,λA _ _ _ hS he=>have hb:=hS rfl;have h24:=eT 24 (he.1 rfl);have hf0:=eF A 24;cP (f:=24) (args:=#[.int .i64 x]) (gF _ _ oM oM),?_,λA _ hA _ _ _=>have h7:A.eval (.tmp 7)=.pointer (some ⟨r,0,none⟩):=hA 7 rfl;pZ rfl,trivial⟩ ?_
   ·intro A w1 hA hL hS he;have h23:=eT 23 (he.1 rfl);refine ae rfl ?_;have c0:=f1 w1 hL.below;exact aA rfl rfl gZ
   ·intro A w1 hA hL hS he;have hb:=hS rfl;have h20:=eT 20 (he.1 rfl);obtain⟨v25,h25,f25⟩:=fT 25 (he.2.1 rfl);have hf0:=eF A 75;exact cP (f:=75) (args:=#[.agg #[.bool n1,.slice x1 k1 d1,.bool n2,.slice x2 k2 d2],v25]) (JN _ _ _ _ _ (hrat2.on hb) f25 S a7)
   ·intro W4 hL4;have hb4:=hL4.below;simp only[aU,af.eq,af.rat,af.of,lZ];rintro v25 h25 v26 h26;obtain⟨n5,a5,k5,c5,n6,a6,k6,c6,rfl⟩:=fF h26;go_frame;have hown4:=hown2.out.on hb4;have B4:=B.on hb4;have hbW4:=hbW2.trans (hb4.mono hbW2.size);clear hown2 B hL4 hb4 h25 hrat2 f1
    go_upto_region 7 with (refine kF rfl _ (.tmp 27) (.tmp 26) rfl r 4 aJ _ _ rfl rfl B4 sM dD dH ?_;intro W5 R5 hl5)
    change Blk W5 r aJ (bD (e1,e2,e3,e4)++[.bool n5,.slice a5 k5 c5,.bool n6,.slice a6 k6 c6])at R5;have hown5:=hown4.lr hl5 (aV dM) (.inr I);have h265:=h26.lr hl5 dM;have hbW5:=hbW4.trans (hl5.belowAt hbW4.size (λk hk=>by cases hk;exact Z));clear hown4 B4 hl5 hbW4 h26;have z':=R5.at1 v _ (C [.bool n5,.slice a5 k5 c5,.bool n6,.slice a6 k6 c6]);have hf:=R5.frozen v
    go_upto_region 8 with (fail)
    have hl6:=aY (j:=v) R5 (.int .i64 (x - 1));have R6:=R5.set v (.int .i64 (x - 1));have hset3:=y [.bool n5,.slice a5 k5 c5,.bool n6,.slice a6 k6 c6];simp only[bD,List.cons_append,List.nil_append]at hset3 R6;rw[hset3]at R6;have hown6:=hown5.lr hl6 (aV dM) (.inr I);have h266:=h265.lr hl6 dM;have hbW6:=hbW5.trans (hl6.belowAt hbW5.size (λk hk=>by cases hk;exact Z));obtain⟨g1,g2,g3,g4⟩:=E';generalize W5.setCell ⟨r,v,none⟩ (.int .i64 (x - 1))=W6 at *;clear hl6 hset3 y z' hf ab hown5 h265 R5 hbW5 C;have Y:some r≠u5.ownBlock:=λh=>I h.symm;obtain⟨M,m⟩:∃M,M=[Value.bool n5,.slice a5 k5 c5,.bool n6,.slice a6 k6 c6]:=⟨_,rfl⟩;have aa:M.length=4:=by rw[m];rfl
    have h8:(bD (g1,g2,g3,g4)++M).length=8:=by rw[List.length_append,aa];rfl
    rw[show(Value.agg #[.bool n5,.slice a5 k5 c5,.bool n6,.slice a6 k6 c6])=.agg M.toArray by rw[m]]at h266;change Blk W6 r aJ (bD (g1,g2,g3,g4)++[.bool n5,.slice a5 k5 c5,.bool n6,.slice a6 k6 c6])at R6;rw[<-m]at R6;refine aN trivial (u5.ownBlock) (aJ) (hown6.okr) [.eq (u5),.eq (.agg (bD (g1,g2,g3,g4)++M).toArray),.new1 aL fw (((g1,g2,g3,g4),q*(x:Rat))),.row aL (w.heap.size) W6.heap.size ((p.take k).map (V9 v)++[((g1,g2,g3,g4),q*(x:Rat))])] [35,36,37,38] rfl rfl rfl rfl ⟨λ_ _ a _ _ _=>xM rfl (a 5 rfl),λ_ _ a hL _ _=>pL rfl ((R6.lr hL Y).range 0 _ (λj v h=>by rw[Nat.zero_add];exact h)) Tryz.underlying43 (h8) (a 7 rfl),?_,?_,trivial⟩ ?_
    ·intro A w1 hA hL hS he;have h36:=eT 36 (he.1 rfl);refine ae rfl ?_;have hE:(aL:El _).E w1 _ (((g1,g2,g3,g4),q*(x:Rat))):=⟨_,rfl,(h266.lr hL dM).cellsC⟩;refine fo rfl rfl ((hown6.okr).lr hL) hE (bu rfl ?_) (λ_ _ h=>h);simp only[List.map_toArray,List.map_cons,List.map_nil,h36];exact uo _ _ ((aL).len hE)
    ·intro A w1 hA hL hS he;have hb:=hS rfl;have a2:Below w.heap.size w w1:=hbW6.trans (hL.belowAt hbW6.size d);have h35:=eT 35 (he.1 rfl);obtain⟨v37,h37,f37⟩:=fT 37 (he.2.1 rfl);exact ae rfl (dJ rfl rfl rfl Tryz.underlying26 bG h35 h37 (hown6.on hb) rfl rfl (dU f37) (by simp;omega) (a2.size) hL.1.size (λ_ _ h1 h2=>⟨h1,h2⟩))
    ·intro W7 hL7;simp only[aU,af.eq,af.new1,af.row,af.asPure,af.of,af.fragile,lZ];rintro v37 - v38 ⟨hown7,ag⟩;go_frame;have hbW7:=hbW6.trans (hL7.belowAt hbW6.size d);go_wp2;go_roundw
     case measure=>simp[intOf];omega
     case rel=>exact⟨k+1,oM,nM,zH (by rw[z.out];exact hown7),hbW7⟩
  ·obtain rfl:k=p.length:=oM;rw[tL (nL _)]at b;have hS:=b.out.isSl;clear b
   go_wp2_with (go_at_call 43;refine(X.out _ _ hS).mono ?_;rintro en w3 ⟨v3,rfl,hv3,hb3⟩)
   go_ret;exact⟨_,rfl,hv3,hb.trans (hb3.mono hb.size)⟩
end Go.Proofs.YtopclbeomcggiaaGreat
end
section
namespace Q
open Go Go.RowKit Go.Proofs.YtopclbeomcggiaaGreat
def GH (a g q:List aj):Prop:=∃t l n,g=t::l/\Wr (t::l)/\wL (t::l) t n a [] (some q)
def KW (G:mE) (v:Nat):Nat->Nat->List aj->List aj->List (List aj × Nat)->List (List aj × Nat)->Prop
 | 0,_,_,_,_,_=>False
 | f+1,n,x,y,out,R=>x.length<=100000000/\(¬0<aD x v/\R=out\/0<aD x v/\W8 x/\Wr y/\Wr (aS x v) /\
   ∃g x' y',G x (gp y (aS x v)) g/\g.length<=100000000/\GH x g x'/\GH (gp y (aS x v)) g y'/\KW G v f (n+1) x' y' (if 0<aD g v then out++[(g,n)]else out) R)
def Y0 (G:mE) (a:List aj) (v:Nat) (R:List (List aj × Nat)):Prop:=∃p,Gx G a v p/\p.length<=100000000/\(aD p v<1/\R=[]\/¬aD p v<1/\W8 p/\Wr (aS p v) /\
 ∃g w0 y0 f,G p (aS p v) g/\GH p g w0/\GH (aS p v) g y0/\f<=10000000/\KW G v f 1 w0 y0 [] R)
end Q
namespace Go.Proofs.YtopclbeomcggiaaGreat
open Go.RowKit Q
theorem IR{b d:Value}{a g q:List aj}{w:World}(ha:ai w b a)(hb:ai w d g)(h:GH a g q):Calls Tryz.prog 64 #[b,d] w (aP w q):=by obtain⟨t,l,n,rfl,k,hd⟩:=h;exact Gw b d a l q t n w ha hb k hd
theorem Bl{G:mE}(HG:EC G)(va:Value)(a:List aj)(R:List (List aj × Nat))(v:Nat)(w:World)(ha:ai w va a)(hv:v<4)(a2:aD a v<=900000)(la:a.length<=100000000)(h:Y0 G a v R) :
  Calls Tryz.prog 31 #[va,.int .i64 v] w (Ea w R):=by
 obtain⟨p,hp,lp,hex⟩:=h;have J:=zH (λW (hb:Below w.heap.size w W)=>kZ HG va a p v W (ha.on hb) hv a2 la hp);have C:=zH (λW u (hu:ai W u p)=>gK u p v W hu hv lp);obtain⟨dp,hdp2⟩:∃dp,dp=aD p v:=⟨_,rfl⟩;rw[<-hdp2]at C hex;have b:Below w.heap.size w (w.alloc (.cells #[] AU.T)):=(Below.refl _ _).alloc (nL _) _;have j:zY w.heap.size (w.alloc (.cells #[] AU.T)) (.slice (some ⟨w.heap.size,0,none⟩) 0 0) []:=fQ AU w;change Below w.heap.size w (w.alloc (.cells #[] 54))at b;change zY w.heap.size (w.alloc (.cells #[] 54)) _ _ at j;clear hp hdp2;rcases hex with ⟨hd1,rfl⟩|⟨hd1,kp,N,g,w0,y0,f0,hg,hw,M,hf0,h⟩
 ·replace j:=zH j
  go_enter Tryz.func31,Tryz.ntmps31
  go_wp2_with (first
   | (go_at_call 21;refine(J.out _ b).mono ?_;rintro en w3 ⟨v3,rfl,h3,hb3⟩)
   | (go_at_call 27;refine(C.out _ _ h3).mono ?_;rintro en w4 ⟨rfl,hb4⟩))
  go_ret;have hb34:=hb3.trans (hb4.mono hb3.size);exact⟨_,rfl,(j.out.on hb34).isSl,b.trans (hb34.mono b.size)⟩
 ·have s:=zH (λW u (hu:ai W u p)=>um u p v W hu hv kp N);generalize aS p v=d at *;have o:=zH (λW u1 u2 (h1:ai W u1 p) (h2:ai W u2 d)=>HG u1 u2 p d g W h1 h2 hg);have q:=zH (λW u1 u2 (h1:ai W u1 p) (h2:ai W u2 g)=>IR (w:=W) h1 h2 hw);have r:=zH (λW u1 u2 (h1:ai W u1 d) (h2:ai W u2 g)=>IR (w:=W) h1 h2 M);have hF9:1+f0<=10000001:=oM;replace h:=zH h;clear hf0 hg hw M kp N
  go_enter Tryz.func31,Tryz.ntmps31
  go_upto_region 5 with (first
   | (go_at_call 21;refine(J.out _ b).mono ?_;rintro en w3 ⟨v3,rfl,h3,hb3⟩)
   | (go_at_call 27;refine(C.out _ _ h3).mono ?_;rintro en w4 ⟨rfl,hb4⟩;have h34:=h3.on hb4)
   | (go_at_call 32;refine(s.out _ _ h34).mono ?_;rintro en w5 ⟨v5,rfl,h5,hb5⟩))
  have h35:=h34.on hb5;have hb35:=(hb3.trans (hb4.mono hb3.size)).trans (hb5.mono (hb3.trans (hb4.mono hb3.size)).size);have hb05:=b.trans (hb35.mono b.size);have ho5:=j.on hb35;have hgc2:=zH (o.out _ _ _ h35 h5);clear hb3 hb4 hb5 h34 h3 J s C o hd1 hb35 j b
  go_upto_region 6 with (go_at_call 17;refine hgc2.out.mono ?_;rintro en w6 ⟨v6,rfl,h6,hb6⟩)
  have how2:=zH (q.out _ _ _ (h35.on hb6) h6);have hoy2:=zH (λW (hb:Below w6.heap.size w6 W)=>r.out W _ _ ((h5.on hb6).on hb) (h6.on hb));clear q r h35 h5 hgc2
  go_upto_region 7 with (first
   | (go_at_call 64;refine(hoy2.out w7 hb7).mono ?_;rintro en w8 ⟨v8,rfl,h8,hb8⟩)
   | (go_at_call 64;refine how2.out.mono ?_;rintro en w7 ⟨v7,rfl,h7,hb7⟩))
  have hb68:=hb6.trans ((hb7.trans (hb8.mono hb7.size)).mono hb6.size);have hb08:=hb05.trans (hb68.mono hb05.size);have ho8:=zH (ho5.on hb68);have h78:=zH (h7.on hb8);replace h8:=zH h8;clear how2 hoy2 hb05 hb6 hb7 hb8 hb68 h6 h7 ho5;go_wp2
  go_loopg [5,9,10,11] f0 (λf vo vw vy vn wr=>∃(n:Nat)(x y:List aj)(out:List (List aj × Nat)),vn=.int .i64 n/\Hid (zY w.heap.size wr vo out)/\Hid (ai wr vw x)/\Hid (ai wr vy y)/\Hid (KW G v f n x y out R)/\n+f<=10000001/\out.length<=n/\Below w.heap.size w wr)
  case atStart=>exact⟨1,w0,y0,[],rfl,ho8,h78,h8,h,hF9,sM,hb08⟩
  case round =>
   clear ho8 h78 h8 h hF9 hb08;obtain⟨n,x,y,out,rfl,L,F,M,hs,a8,a9,B⟩:=hrel
   cases gk with
   | zero=>exact absurd hs.out (by simp[KW])
   | succ f =>
   obtain⟨lx,hs2⟩:=hs.out;have D:=zH (gK _ x v wr F.out hv lx);obtain⟨dx,hdx2⟩:∃dx,dx=aD x v:=⟨_,rfl⟩;rw[<-hdx2]at D hs2;clear hs hdx2;rcases hs2 with ⟨hd,rfl⟩|⟨hd,kx,ky,N,g,x',y',hg,lg,a0,a1,hs2⟩
   ·have hS:=L.out.isSl;clear L F M
    go_wp2_with (go_at_call 27;refine D.out.mono ?_;rintro en w3 ⟨rfl,hb3⟩)
    go_ret;exact⟨_,rfl,hS.on hb3,B.trans (hb3.mono B.size)⟩
   ·have s:=zH (λW (h1:Below wr.heap.size wr W)=>um _ x v W (F.out.on h1) hv kx N);have Z:=zH (λW u (h1:Below wr.heap.size wr W) (hu:ai W u (aS x v))=>Sg (w:=W) ky N (M.out.on h1) hu);generalize aS x v=d at *;generalize gp y d=z at *;have o:=zH (λW u1 u2 (h1:ai W u1 x) (h2:ai W u2 z)=>HG u1 u2 x z g W h1 h2 hg);have I:=zH (λW u (hu:ai W u g)=>gK u g v W hu hv lg);have q:=zH (λW u1 u2 (h1:ai W u1 x) (h2:ai W u2 g)=>IR (w:=W) h1 h2 a0);have r:=zH (λW u1 u2 (h1:ai W u1 z) (h2:ai W u2 g)=>IR (w:=W) h1 h2 a1);obtain⟨dg,hdg2⟩:∃dg,dg=aD g v:=⟨_,rfl⟩;rw[<-hdg2]at I hs2;clear hg a0 a1 N kx ky hdg2
    go_upto_region 11 with (first
     | (go_at_call 27;refine D.out.mono ?_;rintro en w3 ⟨rfl,hb3⟩)
     | (go_at_call 32;refine(s.out _ hb3).mono ?_;rintro en w4 ⟨v4,rfl,h4,hb4⟩;have hb34:=hb3.trans (hb4.mono hb3.size))
     | (go_at_call 35;refine(Z.out _ _ hb34 h4).mono ?_;rintro en w5 ⟨v5,rfl,h5,hb5⟩))
    have hb35:=hb34.trans (hb5.mono hb34.size);have hgc2:=zH (o.out _ _ _ (F.out.on hb35) h5);have hx5:=F.out.on hb35;have ho5:=L.out.on hb35;have hbr5:=B.trans (hb35.mono B.size);clear hb3 hb4 hb5 hb34 hb35 h4 s Z D o F M L
    go_upto_region 12 with (go_at_call 17;refine hgc2.out.mono ?_;rintro en w6 ⟨v6,rfl,h6,hb6⟩)
    have hx6:=hx5.on hb6;have hz6:=h5.on hb6;have ho6:=ho5.on hb6;have hbr6:=hbr5.trans (hb6.mono hbr5.size);have hdg2:=zH (I.out _ _ h6);clear hgc2 hx5 h5 ho5 hbr5 hb6 I;have hn1:n<=10000000:=oM
    go_upto_if 52 with (go_at_call 27;refine hdg2.out.mono ?_;rintro en w7 ⟨rfl,hb7⟩)
    have hx7:=hx6.on hb7;have hz7:=hz6.on hb7;have ho7:=ho6.on hb7;have hg7:=h6.on hb7;have hbr7:=hbr6.trans (hb7.mono hbr6.size);clear hx6 hz6 ho6 h6 hbr6 hb7 hdg2
    go_cut [5,53,54,55,56,57,58] (λvo _ _ _ _ _ _ wd=>Hid (zY w.heap.size wd vo (if 0<dg then out++[(g,n)]else out))/\Hid (ai wd u9 x)/\Hid (ai wd v5 z)/\Hid (ai wd v6 g)/\Below w.heap.size w wd)
    case first =>
     by_cases hp:0<dg
     ·have i:Below w7.heap.size w7 (w7.alloc (.cells #[v6,.int .i64 n] 54)):=(Below.refl _ _).alloc (nL _) _;have m:=hbr7.trans (i.mono hbr7.size);have Y:=ho7.on i
      have a4:vC (w7.alloc (.cells #[v6,.int .i64 n] 54)) (.slice (some ⟨w7.heap.size,0,none⟩) 1 1) [(g,n)] :=
       ⟨_,1,[v6,.int .i64 n],rfl,nL _,(Blk.new w7 54 [v6,.int .i64 n]).at,eU.single ⟨v6,rfl,hg7.on i⟩⟩
      have a5:=hx7.on i;have a7:=hz7.on i;have a3:=hg7.on i;have l:=ho7.base_le;obtain⟨a6,c6,rfl,-⟩:=hg7.shape;replace l:=zH l;clear hx7 hz7 hg7 ho7
      go_wp2_with (at_builtin;refine dL rfl _ _ 50 rfl Tryz.underlying50 D9 rfl rfl Y a4 (by simp;omega) m.size ?_;intro v8 w8 hown8 hl8 hv8)
      have hb8:=m.trans (hl8.belowAt m.size (λk hk=>(l.out k hk).1));have hx8:=a5.lr hl8 (aV dM) dM;have hz8:=a7.lr hl8 (aV dM) dM;have hg8:=a3.lr hl8 (aV dM) dM;go_meet
      case rel=>exact⟨zH (by rw[if_pos hp];exact hown8),zH hx8,zH hz8,zH hg8,hb8⟩
     ·go_wp2;go_meet
      case rel=>exact⟨zH (by rw[if_neg oM];exact ho7),zH hx7,zH hz7,zH hg7,hbr7⟩
    case rest =>
     clear hx7 hz7 hg7 ho7 hbr7;obtain⟨L,F,hz,hg,S⟩:=hcut;have how2:=zH (q.out _ _ _ F.out hg.out);have hoy2:=zH (λW (hb:Below wc.heap.size wc W)=>r.out W _ _ (hz.out.on hb) (hg.out.on hb))
     have X:(if 0<dg then out++[(g,n)]else out).length<=n+1:=by
      split
      ·simp;omega
      ·omega
     replace hs2:=zH hs2;generalize(if 0<dg then out++[(g,n)]else out)=out2 at *;clear q r F hz hg
     go_wp2_with (first
      | (go_at_call 64;refine(hoy2.out w9 hb9).mono ?_;rintro en w10 ⟨v10,rfl,h10,hb10⟩)
      | (go_at_call 64;refine how2.out.mono ?_;rintro en w9 ⟨v9,rfl,h9,hb9⟩))
     have hb910:=hb9.trans (hb10.mono hb9.size);go_roundg f
     case measure=>omega
     case rel=>exact⟨n+1,x',y',out2,nM,zH (L.out.on hb910),zH (h9.on hb10),zH h10,hs2,oM,X,S.trans (hb910.mono S.size)⟩
end Go.Proofs.YtopclbeomcggiaaGreat
end
section
namespace Q
open MP Go.Proofs.YtopclbeomcggiaaGreat
def IX (L:List (MP × Nat)):List (List aj × Nat):=L.map λt=>(t.1.l,t.2)
theorem qP:bx D6<=10000:=by rw[XI];omega
theorem zf{a g q:MP}{d:Nat->Nat}{b k:Nat}(i:g≠0)(e:a=q*g)(ha:Dg d a)(hg:Dg d g)(s:In b q)(u:In k g)(r:bx d<=10000)(hb:b+k<7900000000):GH a.l g.l q.l:=by
 obtain⟨t,l,n⟩:=je i
 have h:∃dq dz:Nat->Nat,Dg dq q/\Dg dz g/\∀w,w<4->dq w+dz w<=d w:=by
  by_cases j:q=0
  ·exact⟨λ_=>0,d,λw _=>by rw[j,deg_zero];omega,hg,λw _=>Nat.le_of_eq (Nat.zero_add _)⟩
  ·refine⟨λw=>(q.deg w).toNat,λw=>(g.deg w).toNat,λw _=>?_,λw _=>?_,λw p=>?_⟩
   ·show q.deg w<=((q.deg w).toNat:Int);have:=deg_pos j w;omega
   ·show g.deg w<=((g.deg w).toNat:Int);have:=deg_pos i w;omega
   ·have m:=ha w p;rw[e,deg_mul j i]at m;have:=deg_pos j w;have:=deg_pos i w;show(q.deg w).toNat+(g.deg w).toNat<=d w;omega
 obtain⟨dq,dz,hq,hz,hd⟩:=h;obtain⟨m,o⟩:=IM n hq hz hd s u r hb;exact⟨t,l,q.l.length,n,m,by rw[e];exact o⟩
theorem KX{S:MP->MP->Prop}{v:Nat}:∀{N n:Nat}{x y:MP}{L:List (MP × Nat)},YR S v N n x y L->L.length<=N/\∀t∈L,t.2<n+N
 | 0,_,_,_,_,h=>by cases h
 | N+1,n,x,y,L,h=>by
  rcases h with ⟨_,rfl⟩|⟨_,_,g,x',z',M,_,_,_,e,rfl⟩
  ·exact⟨by simp,λt b=>by cases b⟩
  obtain⟨i,d⟩:=KX e;split
  ·refine⟨by simp only[List.length_cons];omega,λt b=>?_⟩;rcases List.mem_cons.1 b with rfl|b
   ·show n<n+(N+1);omega
   ·have:=d t b;omega
  ·exact⟨oM,λt b=>by have:=d t b;omega⟩
theorem Wd{a q g:MP}(da:Dg D6 a)(d:In 1418 a)(g1:hd g=1)(e:a=q*g):In 2938 q:=by
 by_cases b:a=0
 ·have i:q=0:=by
   rcases mul_eq_zero.1 (e.symm.trans b)with h|h
   ·exact h
   ·exact absurd h (vL g1)
  rw[i];exact In.zero _
 ·exact(d.quot oM b e g1 (A7 da) da AZ).mono oM
theorem OZ{v:Nat}:∀(N f n:Nat)(x y:MP)(L:List (MP × Nat))(out:List (List aj × Nat)),x≠0->Dg D6 x->YR (YS v D6 1418) v N n x y L ->
  yK (uz 6) v (N+f) n x.l y.l out=some (out++IX L)/\KW (qZ 6) v N n x.l y.l out (out++IX L)
 | 0,_,_,_,_,_,_,_,_,h=>by cases h
 | N+1,f,n,x,y,L,out,x0,dx,h=>by
  have j:x.l.length<=100000000:=by have:=dx.len;rw[XI]at this;omega
  rw[(oM:N+1+f=(N+f)+1)];rcases h with ⟨F,rfl⟩|⟨hd,b,g,x',z',M,hg,ex,z,O,rfl⟩
  ·have o:¬0<aD x.l v:=by have F:aD x.l v<=0:=F;omega
   have e:out++IX []=out:=List.append_nil _;rw[e];exact⟨by rw[yK,if_neg o],j,.inl ⟨o,rfl⟩⟩
  have m:0<aD x.l v:=hd;have k:g≠0:=jW hg.i x0;have g1:=hg.n k;have E:x'≠0:=λe=>x0 (by rw[ex,e];grind);have dg:=dx.dvd x0 hg.i.l
  have s:In 1520 g:=by have:=b.sx.1.fac oM x0 hg.i.l (A7 dx) dx AZ;rwa[uj g1]at this
  have q:=Wd dx b.sx.1 g1 ex;have r:=Wd b.sz.2 b.sz.1 g1 z;obtain⟨d,H,S,B⟩:=TN dx b.sz.2 (b.sx.1.mono oM) (b.sz.1.mono oM);obtain rfl:d=g:=B.eq hg;have lb:(1418:Nat)<LB:=by rw[uq];omega
  have e1:Q.g1 (aS x.l v)=some (dr v x).l:=Es (p:=dr v x) (qL b.sd.2 b.sd.1 qP lb);have G:Q.g1 (gp y.l (dr v x).l)=some (y-dr v x).l:=Es (p:=y-dr v x) (qL b.sz.2 b.sz.1 qP lb);have I:=oF k ex dx qP q s (by rw[uq];omega);have J:=oF k z b.sz.2 qP r s (by rw[uq];omega);have W:=zf k ex dx dg q s qP oM;have X:=zf k z b.sz.2 dg r s qP oM;have Y:=jE dx b.sx.1 qP oM;have Z:=(jE b.sy.2 b.sy.1 qP oM).w;have wd:=(jE b.sd.2 b.sd.1 qP oM).w;have R:d.l.length<=100000000:=by have:=dg.len;rw[XI]at this;omega
  have u:Dg D6 x':=dx.dvd x0 ⟨d,ex⟩
  have K:out++IX (if 0<d.deg v then(d,n)::M else M)=(if 0<aD d.l v then out++[(d.l,n)]else out)++IX M:=by
   show _=(if 0<d.deg v then _ else _)++_;split
   ·show out++(d.l,n)::IX M=_;rw[List.append_assoc];rfl
   ·rfl
  obtain⟨C,D⟩:=OZ N f (n+1) x' z' M (if 0<aD d.l v then out++[(d.l,n)]else out) E u O;rw[K];refine⟨?_,j,.inr ⟨m,Y,Z,wd,d.l,x'.l,z'.l,S,R,W,X,D⟩⟩;rw[yK,if_pos m,e1];show dY (Q.g1 (gp y.l (dr v x).l)) _=_;rw[G];show dY (uz 6 x.l (y - dr v x).l) _=_;rw[H];show dY (gT x.l d.l) _=_;rw[I];show dY (gT (y - dr v x).l d.l) _=_;rw[J];exact C
structure ZK (v:Nat) (p:MP) (L:List (MP × Nat)):Prop where
 el:∀t∈L,Dg D6 t.1/\In 228 t.1/\hd t.1=1/\0<t.1.deg v/\1<=t.2/\∃e:MP,qZ 6 t.1.l (aS t.1.l v) e.l/\e.deg v<=0/\Dg D6 e
 pw:L.Pairwise λa b=>a.2<b.2/\qZ 6 b.1.l a.1.l (1:MP).l
 pl:PL L=nrm p
 dv:∀(i:Nat)(h:i<L.length)(j:Nat),j<L[i].2->xA (PL (L.take i)*L[i].1^j).l L[i].1.l
theorem Al:∀A B:List (MP × Nat),PL (A++B)=PL A*PL B
 | [],B=>by show PL B=1*PL B;grind
 | t::A,B=>by show t.1^t.2*PL (A++B)=t.1^t.2*PL A*PL B;rw[Al A B];grind
theorem O0{g:MP}{j:Nat}:∀{m:Nat},j<=m->g^j∣g^m
 | 0,h=>by obtain rfl:j=0:=oM;exact dvd_refl _
 | m+1,h=>by
  by_cases e:j=m+1
  ·rw[e];exact dvd_refl _
  ·have:=O0 (g:=g) (j:=j) (m:=m) oM;rw[(gR:g^(m+1)=g^m*g)];exact dvd_mul_of this g
theorem O1{L:List (MP × Nat)}{i:Nat}(h:i<L.length):PL (L.take (i+1))=PL (L.take i)*L[i].1^L[i].2:=by rw[List.take_add_one,gE h,Al];show PL (L.take i)*(L[i].1^L[i].2*1)=_;grind
theorem Vv{L:List (MP × Nat)}{i:Nat}(h:i<L.length){j:Nat}(d:j<L[i].2):PL (L.take i)*L[i].1^j*L[i].1∣PL L:=by
 have b:PL L=PL (L.take (i+1))*PL (L.drop (i+1)):=by rw[<-Al,List.take_append_drop]
 rw[b,O1 h];refine dvd_mul_of ?_ _;rw[(gR:PL (L.take i)*L[i].1^j*L[i].1=PL (L.take i)*L[i].1^(j+1))];exact mul_dvd (dvd_refl _) (O0 oM)
theorem XB:126+(126+102)+(126+102+3)+(126+(126+102)+(126+102+3)+248)=1418:=oM
theorem Zh{p g:MP}(b:p≠0)(dp:Dg D6 p)(ip:In 126 p)(h:g∣p)(d:hd g=1):Dg D6 g/\In 228 g:=by have:=ip.fac oM b h (A7 dp) dp AZ;rw[uj d]at this;exact⟨dp.dvd b h,this⟩
theorem TQ{v:Nat}{p:MP}(hv:v<4)(dp:Dg D6 p)(ip:In 126 p)(R:p.prim v)(a0:0<p.deg v):∃(L:List (MP × Nat))(g x y:MP)(N:Nat),N<=7/\NG g p (dr v p)/\p=x*g/\dr v p=y*g/\YR (YS v D6 1418) v N 1 x y L/\x≠0/\Dg D6 x/\In 354 x/\Dg D6 y/\In 1418 y/\ZK v p L:=by
 have o:=bZ R;have dd:=Gt hv dp
 have M:∀w,w<4->D6 w<=6:=λw hw=>by
  obtain⟨e0,e1,e2,e3⟩:=IQ;obtain rfl|rfl|rfl|rfl:w=0\/w=1\/w=2\/w=3:=oM
  all_goals omega
 have he:D6 v<=2^3:=by have:=M v hv;omega
 obtain⟨C,_,hg⟩:=oI 4 oM p (dr v p) (K9 _) (K9 _);have s:C≠0:=jW hg o;have k:NG (nrm C) p (dr v p):=⟨qd hg s,λ_=>jY s⟩;obtain⟨x,ex⟩:=k.i.l;obtain⟨y,I⟩:=k.i.r;have ex:p=x*nrm C:=by rw[jC x];exact ex
 have I:dr v p=y*nrm C:=by rw[jC y];exact I
 have B:=Yp.start o k ex I;have S:∀x y H,Yp v p x y H->YS v D6 1418 x y:=λx y H h=>XB▸Yp.size (n:=2) oM hv o ip dp (A7 dp) AZ Xz he h;obtain⟨L,hL⟩:=YO S ((p.deg v).toNat+1) 1 x y p oM B;have u:=S x y p B;have x0:=B.n.x0;have F:=B.xp;obtain⟨f1,f2⟩:=YR.fac x0 hL;have a5:p.deg v<=6:=by have:=dp v hv;have:=M v hv;omega
 have ix:In 354 x:=(ip.quot oM o ex (jY s) (A7 dp) dp AZ).mono oM;refine⟨L,nrm C,x,y,(p.deg v).toNat+1,oM,k,ex,I,hL,x0,u.sx.2,ix,u.sy.2,u.sy.1,?_⟩;have d:∀t∈L,Dg D6 t.1/\In 228 t.1:=λt z=>Zh o dp ip (dvd_trans (f1 t z).1 F) (f1 t z).2.2.1;have m:=YR.all R B hL;refine⟨λt z=>?_,?_,m,λi h j hj=>?_⟩
 ·obtain⟨a1,a2,J,a4⟩:=f1 t z;obtain⟨b1,q⟩:=d t z;have d1:=Gt hv b1;have hE:t.1.deg v<=((6:Nat):Int):=by have:=b1 v hv;have:=M v hv;omega
  have i1:In 231 (dr v t.1):=(In.der hE (e:=3) oM q).mono oM;obtain⟨e,-,K,G⟩:=TN b1 d1 (q.mono oM) (i1.mono oM);have O:=Vo B.n a1 (vL J) G.i;exact⟨b1,q,J,a2,a4,e,K,O,b1.dvd (vL J) G.i.l⟩
 ·refine f2.imp_of_mem λ{a b} ha hb h=>⟨h.1,?_⟩;obtain⟨b1,q⟩:=d a ha;obtain⟨c1,c2⟩:=d b hb;obtain⟨e,-,K,G⟩:=TN c1 b1 (c2.mono oM) (q.mono oM);have:e=1:=Vp R B.n F (by rw[jC];exact h.2) (vL (f1 b hb).2.2.1) G;rw[<-this];exact K
 ·have hm:L[i]∈L:=List.getElem_mem h;obtain⟨b1,q⟩:=d _ hm;have g1:=(f1 _ hm).2.2.1;have D:=Vv h hj;rw[m]at D;have E:PL (L.take i)*L[i].1^j*L[i].1∣p:=dvd_trans D (eu o).1;obtain⟨W,q1⟩:=TF (L:=L.take i) λt z=>(f1 t (List.mem_of_mem_take z)).2.2.1;obtain⟨X,r1⟩:=Na g1 (vL g1) j;have Y:=mul_ne W X;have Z:hd (PL (L.take i)*L[i].1^j)=1:=by rw[xE W X,q1,r1,Rat.mul_one]
  obtain⟨_,iM⟩:=Zh o dp ip (dvd_trans ⟨_,rfl⟩ E) Z;exact OX Y (vL g1) (dp.dvd o E) iM q qP oM
theorem XC{v:Nat}{a:MP}(hv:v<4)(da:Dg D6 a)(ia:In 12 a):∃(p:MP)(L:List (MP × Nat)),Gx (qZ 6) a.l v p.l/\Dg D6 p/\In 126 p/\VR (uz 6) a.l v=some (IX L)/\Y0 (qZ 6) a.l v (IX L) /\
  L.length<=7/\(∀t∈L,t.2<=8)/\(a.deg v<1/\L=[]\/¬a.deg v<1/\ZK v p L):=by
 by_cases j:a=0
 ·refine⟨0,[],.inl ⟨zero_iff.1 j,rfl⟩,λw _=>by rw[deg_zero];omega,In.zero _,?_,⟨[],.inl ⟨zero_iff.1 j,rfl⟩,sM,.inl ⟨(oM:(-1:Int)<1),rfl⟩⟩,sM,sM,.inl ⟨by rw[j,deg_zero];omega,rfl⟩⟩;rw[zero_iff.1 j];rfl
 obtain⟨p,e1,u,O,dp,ip,g,Y,C,D⟩:=YZ hv da ia j;have s:=bZ O;have G:g≠0:=vL C;have I:a.deg v=p.deg v:=by rw[Y,deg_mul G s,qp D G];omega
 have M:p.l.length<=100000000:=by have:=dp.len;rw[XI]at this;omega
 by_cases H:a.deg v<1
 ·have m:aD p.l v<1:=(oM:p.deg v<1);refine⟨p,[],u,dp,ip,?_,⟨p.l,u,M,.inl ⟨m,rfl⟩⟩,sM,sM,.inl ⟨H,rfl⟩⟩;rw[VR,e1];show(if aD p.l v<1 then _ else _)=_;rw[if_pos m];rfl
 have m:¬aD p.l v<1:=(oM:¬p.deg v<1);obtain⟨L,g,x,y,N,hN,hg,ex,F,hL,x0,R,J,dy,K,hF⟩:=TQ hv dp ip O oM;have b:g≠0:=jW hg.i s;have z:=hg.n b;have k:=Gt hv dp
 have Z:p.deg v<=((6:Nat):Int):=by
  have h:=dp v hv;obtain⟨e0,e1,e2,E⟩:=IQ;obtain rfl|rfl|rfl|rfl:v=0\/v=1\/v=2\/v=3:=oM
  all_goals omega
 have id:In 129 (dr v p):=(In.der Z (e:=3) oM ip).mono oM;obtain⟨q,E,r3,B⟩:=TN dp k (ip.mono oM) (id.mono oM);obtain rfl:q=g:=B.eq hg;have dg:=dp.dvd s hg.i.l;obtain⟨-,r⟩:=Zh s dp ip hg.i.l z;obtain⟨d,o⟩:=OZ N (fuel - N) 1 x y L [] x0 R hL;rw[show N+(fuel - N)=fuel by have:fuel=10000000:=rfl;omega]at d;have X:Q.g1 (aS p.l v)=some (dr v p).l:=Es (p:=dr v p) (qL k id qP (by rw[uq];omega));have S:=oF b ex dp qP J r (by rw[uq];omega);have W:=oF b F k qP K r (by rw[uq];omega);obtain⟨s1,s2⟩:=KX hL;refine⟨p,L,u,dp,ip,?_,⟨p.l,u,M,.inr ⟨m,jE dp ip qP oM,(jE k id qP oM).w,q.l,x.l,y.l,N,r3,zf b ex dp dg J r qP oM,zf b F k dg K r qP oM,oM,o⟩⟩,oM,λt ht=>by have:=s2 t ht;omega,.inr ⟨H,hF⟩⟩;rw[VR,e1];show(if aD p.l v<1 then _ else _)=_;rw[if_neg m,X];show dY (uz 6 p.l (dr v p).l) _=_;rw[E];show dY (gT p.l q.l) _=_;rw[S];show dY (gT (dr v p).l q.l) _=_;rw[W];exact d
end Q
end
