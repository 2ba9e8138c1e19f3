/- Systems of linear equations with more unknowns than equations: a solution over a domain, and a small one over the integers (Siegel). No program in sight. -/
import Derived.Test.YtopclbeomcggiaaGreatY01
set_option linter.unusedVariables false
set_option linter.unusedSimpArgs false
set_option maxHeartbeats 16000000
set_option maxRecDepth 100000
section
namespace Q
theorem dI{f g:Nat->MP}:∀{n:Nat},(∀i,i<n->f i=g i)->cO f n=cO g n
 | 0,_=>rfl
 | n+1,h=>by rw[cO,cO,dI λi b=>h i (by omega),h n (by omega)]
theorem nJ:∀n:Nat,cO (λ_=>0) n=0
 | 0=>rfl
 | n+1=>by rw[cO,nJ n];grind
theorem CR(f g:Nat->MP):∀n:Nat,cO (λi=>f i+g i) n=cO f n+cO g n
 | 0=>by simp only[cO];grind
 | n+1=>by simp only[cO];rw[CR f g n];grind
theorem rO(c:MP)(f:Nat->MP):∀n:Nat,cO (λi=>c*f i) n=c*cO f n
 | 0=>by simp only[cO];grind
 | n+1=>by simp only[cO];rw[rO c f n];grind
theorem Jp(f:Nat->MP)(n:Nat):cO (λi=>- f i) n=- cO f n:=by have:=rO (-1) f n;have e:(λi=>(-1:MP)*f i)=λi=>- f i:=funext λi=>gR;rw[e]at this;rw[this];grind
def xJ (k j:Nat):Nat:=if j<k then j else j+1
def Y4 (k j:Nat):Nat:=if j<k then j else j-1
theorem NF(k j:Nat):Y4 k (xJ k j)=j:=by
 unfold Y4 xJ;by_cases h:j<k
 ·rw[if_pos h,if_pos h]
 ·rw[if_neg h,if_neg oM];omega
theorem Rv(k j:Nat):xJ k j≠k:=by unfold xJ;split<;>omega
theorem Hm{k j n:Nat}(h:j<n):xJ k j<n+1:=by unfold xJ;split<;>omega
theorem Jq(f:Nat->MP):∀{n k:Nat},k<n+1->cO f (n+1)=f k+cO (λj=>f (xJ k j)) n
 | 0,k,h=>by obtain rfl:k=0:=oM;simp only[cO];grind
 | n+1,k,h=>by
  rcases Nat.eq_or_lt_of_le (oM:k<=n+1)with e|hk
  ·subst e;rw[cO,dI (f:=λj=>f (xJ (n+1) j)) (g:=f) λi b=>by simp only[xJ,if_pos b]];grind
  ·rw[cO,Jq f (k:=k) oM,cO,show xJ k n=n+1 from by unfold xJ;rw[if_neg oM]];grind
theorem WA{P:MP->Prop}(y:P 1)(ha:∀a b,P a->P b->P (a+b))(hm:∀a b,P a->P b->P (a*b))(z:∀a,P a->P (-a)) :
  ∀(e n:Nat)(M:Nat->Nat->MP),(∀i j,i<e->j<n->P (M i j))->e<n->∃s:Nat->MP,(∀j,j<n->P (s j))/\(∃j,j<n/\s j≠0)/\∀i,i<e->cO (λj=>s j*M i j) n=0:=by
 have h0:P 0:=by have:=ha 1 (-1) y (z 1 y);have e:(1:MP)+-1=0:=gR;rwa[e]at this
 have H:∀(f:Nat->MP) n,(∀j,j<n->P (f j))->P (cO f n):=by
  intro f n
  induction n with
  | zero=>intro _;exact h0
  | succ n u=>intro h;exact ha _ _ (u λj d=>h j oM) (h n oM)
 intro e
 induction e with
 | zero=>intro n M _ p;exact⟨λ_=>1,λ_ _=>y,⟨0,p,MP.one_ne⟩,λi r=>oM⟩
 | succ e u =>
  intro n M l p;by_cases hz:∀j,j<n->M e j=0
  ·obtain⟨s,x,K,C⟩:=u n M (λi j r d=>l i j oM d) oM;refine⟨s,x,K,λi r=>?_⟩;rcases Nat.eq_or_lt_of_le (oM:i<=e)with o|hi'
   ·subst o;rw[dI (g:=λ_=>0) λj d=>by rw[hz j d];grind];exact nJ n
   ·exact C i hi'
  ·have ⟨k,hk⟩:=Classical.not_forall.1 hz;have ⟨hkn,hk0⟩:=Classical.not_imp.1 hk;obtain⟨m,rfl⟩:∃m,n=m+1:=⟨n - 1,oM⟩
   obtain⟨s,x,⟨B,I,J⟩,C⟩:=u m (λi j=>M e k*M i (xJ k j) - M i k*M e (xJ k j)) (λi j r d=>by
    have D:=hm _ _ (l e k oM hkn) (l i (xJ k j) oM (Hm d));have E:=z _ (hm _ _ (l i k oM hkn) (l e (xJ k j) oM (Hm d)));have:=ha _ _ D E;have o:M e k*M i (xJ k j)-M i k*M e (xJ k j)=M e k*M i (xJ k j)+-(M i k*M e (xJ k j)):=gR;show P (M e k*M i (xJ k j)-M i k*M e (xJ k j))
    rw[o];exact this) oM
   refine⟨λj=>if j=k then-cO (λj=>s j*M e (xJ k j)) m else M e k*s (Y4 k j),λj d=>?_,⟨xJ k B,Hm I,?_⟩,λi r=>?_⟩
   ·show P (if j=k then _ else _);split
    ·exact z _ (H _ _ λj d=>hm _ _ (x j d) (l e _ oM (Hm d)))
    ·rename_i G;refine hm _ _ (l e k oM hkn) (x _ ?_);unfold Y4;split<;>omega
   ·show(if xJ k B=k then _ else _)≠_;rw[if_neg (Rv k B),NF];exact MP.mul_ne hk0 J
   ·rw[Jq _ hkn];simp only[if_pos,if_neg (Rv k _),NF]
    have q:cO (λj=>s j*(M e k*M i (xJ k j)-M i k*M e (xJ k j))) m=M e k*cO (λj=>s j*M i (xJ k j)) m-M i k*cO (λj=>s j*M e (xJ k j)) m:=by rw[<-rO,<-rO];have:∀a b:MP,a-b=a+-b:=λa b=>gR;rw[this,<-Jp,<-CR];exact dI λj _=>gR
    have F:cO (λj=>M e k*s j*M i (xJ k j)) m=M e k*cO (λj=>s j*M i (xJ k j)) m:=by rw[<-rO];exact dI λj _=>gR
    rw[F];rcases Nat.eq_or_lt_of_le (oM:i<=e)with o|hi'
    ·subst o;grind
    ·have:=C i hi';rw[q]at this;grind
theorem WB{A B:Nat}(f:Nat->Nat)(h:∀a,a<A->f a<B)(j:B<A):∃a b,a<A/\b<A/\a≠b/\f a=f b:=by
 rcases Classical.em (∃a b,a<A/\b<A/\a≠b/\f a=f b)with hh|hh
 ·exact hh
 ·exfalso
  have d:((List.range A).map f).Nodup:=by rw[List.Nodup,List.pairwise_map];refine List.Pairwise.imp_of_mem ?_ (List.pairwise_lt_range (n:=A));intro a b ha hb i e;exact hh ⟨a,b,List.mem_range.1 ha,List.mem_range.1 hb,oM,e⟩
  have:=d.length_le_of_subset (l₂:=List.range B) (λx k=>by
   obtain⟨a,ha,rfl⟩:=List.mem_map.1 k
   exact List.mem_range.2 (h a (List.mem_range.1 ha)))
  simp at this;omega
def CU (X:Nat):Nat->Nat->Nat
 | a,0=>a%X
 | a,j+1=>CU X (a/X) j
theorem CV{X:Nat}(b:0<X):∀(a j:Nat),CU X a j<X
 | a,0=>Nat.mod_lt _ b
 | a,j+1=>CV b (a/X) j
theorem Ho{X:Nat}(e:0<X):∀(n a b:Nat),a<X^n->b<X^n->(∀j,j<n->CU X a j=CU X b j)->a=b
 | 0,a,b,ha,hb,_=>by simp at ha hb;omega
 | n+1,a,b,ha,hb,h=>by have h0:=h 0 oM;have d:=Ho e n (a/X) (b/X) (Nat.div_lt_of_lt_mul (by rwa[Nat.mul_comm,<-Nat.pow_succ])) (Nat.div_lt_of_lt_mul (by rwa[Nat.mul_comm,<-Nat.pow_succ])) λj i=>h (j+1) oM;simp only[CU]at h0;have:=Nat.div_add_mod a X;have:=Nat.div_add_mod b X;rw[d,h0]at *;omega
def oP (W:Nat) (y:Nat->Nat):Nat->Nat
 | 0=>0
 | n+1=>y 0+W*oP W (λi=>y (i+1)) n
theorem yg{W:Nat}:∀(n:Nat)(y:Nat->Nat),(∀i,i<n->y i<W)->oP W y n<W^n
 | 0,_,_=>by simp[oP]
 | n+1,y,h=>by have h0:=h 0 oM;have:=yg n (λi=>y (i+1)) λi b=>h (i+1) oM;rw[oP,Nat.pow_succ,Nat.mul_comm (W^n)];have:W*(oP W (λi=>y (i+1)) n+1)<=W*W^n:=Nat.mul_le_mul_left W this;rw[Nat.mul_succ]at this;omega
theorem FH{W:Nat}:∀(n:Nat)(y z:Nat->Nat),(∀i,i<n->y i<W)->(∀i,i<n->z i<W)->oP W y n=oP W z n->∀i,i<n->y i=z i
 | 0,_,_,_,_,_=>λi b=>by omega
 | n+1,y,z,hy,hz,h=>λi b=>by
  have h0:=hy 0 oM;have e:=hz 0 oM;rw[oP,oP]at h
  have e1:y 0=z 0:=by have:=congrArg (· % W) h;simp only[Nat.add_mul_mod_self_left,Nat.mod_eq_of_lt h0,Nat.mod_eq_of_lt e]at this;exact this
  have d:=Nat.eq_of_mul_eq_mul_left (oM:0<W) (show W*oP W (λi=>y (i+1)) n=W*oP W (λi=>z (i+1)) n by omega)
  cases i with
  | zero=>exact e1
  | succ i=>exact FH n _ _ (λi b=>hy (i+1) oM) (λi b=>hz (i+1) oM) d i oM
def wX (f:Nat->Int):Nat->Int
 | 0=>0
 | n+1=>wX f n+f n
theorem Jr(f g:Nat->Int):∀n,wX (λi=>f i-g i) n=wX f n-wX g n
 | 0=>rfl
 | n+1=>by simp only[wX];rw[Jr f g n];omega
theorem Js{f:Nat->Int}{K:Nat}:∀{n:Nat},(∀i,i<n->(f i).natAbs<=K)->(wX f n).natAbs<=n*K
 | 0,_=>by simp[wX]
 | n+1,h=>by have b:=Js (n:=n) λi e=>h i oM;have d:=h n oM;rw[wX,Nat.succ_mul];omega
theorem WC{e n H X:Nat}(M:Nat->Nat->Int)(B:∀i j,i<e->j<n->(M i j).natAbs<=H)(k:(2*(n*(X*H))+1)^e<(X+1)^n) :
  ∃s:Nat->Int,(∀j,(s j).natAbs<=X)/\(∃j,j<n/\s j≠0)/\∀i,i<e->wX (λj=>s j*M i j) n=0:=by
 have hb:∀(a i:Nat),i<e->(wX (λj=>(CU (X+1) a j:Int)*M i j) n).natAbs<=n*(X*H):=λa i d=>Js λj q=>by rw[Int.natAbs_mul,Int.natAbs_natCast];exact Nat.mul_le_mul (by have:=CV (X:=X+1) oM a j;omega) (B i j d q)
 obtain⟨Z,m⟩:∃Z,Z=n*(X*H):=⟨_,rfl⟩;rw[<-m]at k
 let y:Nat->Nat->Nat:=λa i=>(wX (λj=>(CU (X+1) a j:Int)*M i j) n+Z).toNat
 have u:∀a i,i<e->y a i<2*Z+1:=λa i d=>by have:=hb a i d;rw[<-m]at this;show Int.toNat _<_;omega
 obtain⟨a,b,ha,p,r,o⟩:=WB (λa=>oP (2*Z+1) (y a) e) (λa _=>yg e _ λi d=>u a i d) k;have d:=FH e _ _ (λi d=>u a i d) (λi d=>u b i d) o;refine⟨λj=>(CU (X+1) a j:Int) - CU (X+1) b j,λj=>?_,?_,λi h=>?_⟩
 ·have:=CV (X:=X+1) oM a j;have:=CV (X:=X+1) oM b j;show Int.natAbs (_-_)<=X;omega
 ·rcases Classical.em (∃j,j<n/\CU (X+1) a j≠CU (X+1) b j)with ⟨j,l,x⟩|hh
  ·exact⟨j,l,by show _-_≠(0:Int);omega⟩
  ·exfalso;apply r;refine Ho oM n a b ha p λj q=>?_;rcases Classical.em (CU (X+1) a j=CU (X+1) b j)with h|h
   ·exact h
   ·exact absurd ⟨j,q,h⟩ hh
 ·have l:=d i h;have x:=hb a i h;have z:=hb b i h;rw[<-m]at x z;have l:Int.toNat _=Int.toNat _:=l;have:wX (λj=>(CU (X+1) a j:Int)*M i j) n=wX (λj=>(CU (X+1) b j:Int)*M i j) n:=oM;rw[show(λj=>((CU (X+1) a j:Int)-CU (X+1) b j)*M i j)=λj=>(CU (X+1) a j:Int)*M i j-(CU (X+1) b j:Int)*M i j from funext λj=>Int.sub_mul _ _ _,Jr,this];omega
end Q
end
section
namespace Q
namespace MP
inductive Sq (v:Nat) (p q:MP):MP->MP->Prop
 | base:Sq v p q p q
 | step {x y z k t e:MP}:Sq v p q x y->y≠0->k≠0->k.lo v->e≠0->e.fr v->k*x=t*y+e*z->z.deg v<y.deg v->Sq v p q y z
theorem qp{a:MP}{v:Nat}(h:a.fr v)(h0:a≠0):a.deg v=0:=by have:=deg_pos h0 v;have b:a.deg v<=0:=h;omega
theorem FI{v:Nat}{x y z k t e f S T c:MP}(m:y≠0)(k0:k≠0)(e0:e≠0)(r:e.fr v)(D:k.fr v)(q:k*x=t*y+e*z)(C:z.deg v<y.deg v)
  {K:Int} (hf:f.deg v<=K) (F:K<y.deg v) (c0:c≠0) (cf:c.fr v) (hc:c*f=S*x+T*y) (G:S=0\/S.deg v<y.deg v-K) (p:S≠0\/T≠0) :
  (k*c)*f=(S*t+k*T)*y+(S*e)*z/\(S*t+k*T=0\/(S≠0/\(S*t+k*T).deg v+y.deg v<=S.deg v+z.deg v))/\(S*t+k*T≠0\/S*e≠0):=by
 have j:(k*c)*f=(S*t+k*T)*y+(S*e)*z:=by
  have i:(k*c)*f=S*(k*x)+k*T*y:=by have:(k*c)*f=k*(c*f):=gR;rw[this,hc];grind
  rw[i,q];grind
 refine⟨j,?_,?_⟩
 ·by_cases n:S*t+k*T=0
  ·exact .inl n
  ·refine .inr ?_;have o:(S*t+k*T)*y=(k*c)*f-(S*e)*z:=by rw[j];grind
   have hd:=deg_mul n m v;have i:=nD v ((k*c)*f) ((S*e)*z);rw[<-o,hd]at i;have u:=deg_pos n v
   have E:((k*c)*f).deg v<=max K (-1):=by
    by_cases l:f=0
    ·have d:(k*c)*f=0:=by rw[l];grind
     rw[d,deg_zero];omega
    ·rw[deg_mul (mul_ne k0 c0) l,qp (wR D cf) (mul_ne k0 c0)];omega
   by_cases b:S=0
   ·exfalso;have d:(S*e)*z=0:=by rw[b];grind
    rw[d,deg_zero]at i;have:=deg_pos m v;omega
   ·refine⟨b,?_⟩;by_cases hz:z=0
    ·exfalso;have d:(S*e)*z=0:=by rw[hz];grind
     rw[d,deg_zero]at i;have:=deg_pos m v;omega
    ·have s:((S*e)*z).deg v=S.deg v+z.deg v:=by
      rw[deg_mul (mul_ne b e0) hz,deg_mul b e0,qp r e0];omega
     rw[s]at i;have:=deg_pos m v;omega
 ·by_cases b:S=0
  ·have B:=p.resolve_left λh=>h b;have d:S*t+k*T=k*T:=by rw[b];grind
   rw[d];exact .inl (mul_ne k0 B)
  ·exact .inr (mul_ne b e0)
theorem Sq.comb{v:Nat}(hv:v<4){p q x y:MP}(h:Sq v p q x y){S T f:MP}(hf:f=S*p+T*q){K:Int}(j:f.deg v<=K)(u:S=0\/S.deg v<q.deg v-K)(l:S≠0\/T≠0) :
  K<y.deg v->∃c b T':MP,c≠0/\c.lo v/\c*f=b*x+T'*y/\(b=0\/b.deg v<y.deg v-K)/\(b≠0\/T'≠0):=by
 induction h with
 | base=>exact λ_=>⟨1,S,T,one_ne,Ck v,by rw[hf];grind,u,l⟩
 | step _ B k0 n e0 s m k z =>
  intro D;obtain⟨c,b,T',c0,cf,hc,d,e⟩:=z oM;obtain⟨o,i,r⟩:=FI B k0 e0 s (n v (nL v) hv) m k j oM c0 (cf v (nL v) hv) hc d e;refine⟨_,_,_,mul_ne k0 c0,kK n cf,o,?_,r⟩;rcases i with i|⟨b1,C⟩
  ·exact .inl i
  ·rcases d with h|h
   ·exact absurd h b1
   ·exact .inr oM
theorem Sq.dvd{v:Nat}(hv:v<4){p q x y z k t e:MP}(h:Sq v p q x y)(I:y≠0)(k0:k≠0)(B:k.lo v)(e0:e≠0)(F:e.fr v)(s:k*x=t*y+e*z)(o:z.deg v<y.deg v)(J:z≠0)
  {S T f:MP} (hf:f=S*p+T*q) {K:Int} (l:f.deg v<=K) (G:S=0\/S.deg v<q.deg v-K) (r:S≠0\/T≠0) (u:K<y.deg v) (H:z.deg v<=K) :
  f≠0/\∃c,c≠0/\c.lo v/\z∣c*f:=by
 obtain⟨c,i,T',c0,cf,hc,j,m⟩:=h.comb hv hf l G r u;obtain⟨b,C,D⟩:=FI I k0 e0 F (B v (nL v) hv) s o l u c0 (cf v (nL v) hv) hc j m
 have d:i*t+k*T'=0:=by
  by_cases d:i*t+k*T'=0
  ·exact d
  ·exfalso;obtain⟨b1,L⟩:=C.resolve_left d;rcases j with h|h
   ·exact b1 h
   ·have:=deg_pos d v;omega
 rw[d]at b;have e1:(0:MP)*y+i*e*z=i*e*z:=gR;rw[e1]at b;refine⟨λh0=>?_,_,mul_ne k0 c0,kK B cf,⟨i*e,by rw[b];grind⟩⟩;rw[h0]at b;have E:k*c*(0:MP)=0:=gR;rw[E]at b;rcases mul_eq_zero.1 b.symm with h|h
 ·exact D.elim (λn=>n d) λn=>n h
 ·exact J h
theorem wY(f:Nat->MP)(a:Nat):∀b,cO f (a+b)=cO f a+cO (λj=>f (a+j)) b
 | 0=>by rw[Nat.add_zero,cO];grind
 | b+1=>by rw[<-Nat.add_assoc,cO,wY f a b,cO];grind
theorem qw(f:Nat->MP){k:Nat}:∀{n:Nat},k<n->(∀j,j<n->j≠k->f j=0)->cO f n=f k
 | 0,h,_=>by omega
 | n+1,h,hz=>by
  rw[cO];rcases Nat.eq_or_lt_of_le (show k<=n by omega)with e|hk
  ·subst e;rw[dI (g:=λ_=>0) λj b=>hz j (by omega) (by omega),nJ];grind
  ·rw[qw f hk λj b=>hz j (by omega),hz n (by omega) (by omega)];grind
theorem tu(v i:Nat)(f:Nat->MP):∀n,(cO f n).co v i=cO (λj=>(f j).co v i) n
 | 0=>rfl
 | n+1=>by rw[cO,co_add,tu v i f n];rfl
theorem qx{v:Nat}{f:Nat->MP}{d:Int}(hd:-1<=d):∀{n:Nat},(∀j,j<n->(f j).deg v<=d)->(cO f n).deg v<=d
 | 0,_=>by rw[cO,deg_zero];exact hd
 | n+1,h=>by have b:=qx hd (n:=n) λj i=>h j oM;have e:=h n oM;rw[cO];have:=sK v (cO f n) (f n);omega
theorem vW(f:Nat->MP)(c:MP)(n:Nat):cO (λi=>f i*c) n=cO f n*c:=by rw[dI (g:=λi=>c*f i) λi _=>gR,rO];grind
theorem dh(v:Nat)(a b:MP){x y:Int}(d:a.deg v<=x)(i:b.deg v<=y)(h:-1<=x+y):(a*b).deg v<=x+y:=by
 by_cases ha:a=0
 ·have e:a*b=0:=by rw[ha];grind
  rw[e,deg_zero];exact h
 ·by_cases hb:b=0
  ·have e:a*b=0:=by rw[hb];grind
   rw[e,deg_zero];exact h
  ·rw[deg_mul ha hb];omega
theorem rP(v i:Nat)(p:MP){w:Nat}(b:w<4)(hv:v<4){d:Nat}(h:p.deg w<=d):(p.co v i).deg w<=d:=by have:=zn v i p b hv;omega
theorem VH{v i:Nat}{p:MP}{w:Nat}(b:w<4)(hv:v<4)(h:p.fr w):(p.co v i).fr w:=by have:=zn v i p b hv;have d:p.deg w<=0:=h;show(p.co v i).deg w<=0;omega
theorem rQ{v w k:Nat}(b:w<4)(hv:v<4)(h:v≠w):(xk v k).deg w=0:=by show max (-1) ((e0.put v k).get w)=0;rw[Ex.get_put_ne _ hv b h,Cj];rfl
theorem fP(v k n:Nat):(xk v k).co v n=if n=k then 1 else 0:=by
 have e:xk v k=xk v k*1:=gR;rw[e,co_xk];by_cases h:k<=n
 ·rw[if_pos h];by_cases b:n=k
  ·rw[if_pos b,b,Nat.sub_self,G5 (sN v)]
  ·rw[if_neg b,Lh (sN v) oM]
 ·rw[if_neg h,if_neg oM]
def VI (v w:Nat) (R A:Nat) (p q:MP) (j:Nat):MP :=
 if j<A then(xk w (j%R)*xk v (j/R))*p else(xk w ((j-A)%R)*xk v ((j-A)/R))*q
theorem LX{v w:Nat}(hv:v<4)(I:w<4)(D:v≠w){p q:MP}{m n k d:Nat}(hm:p.deg v<=m)(hn:q.deg v<=n)(aa:k<m)(ab:k<n)(hp:p.deg w<=d)(hq:q.deg w<=d) :
  ∃S T:MP,(S≠0\/T≠0)/\S.deg v<n-k/\(S*p+T*q).deg v<=k/\(S*p+T*q).deg w<=(((m+n-2*k)*d:Nat):Int):=by
 obtain⟨u,hu⟩:∃u,u=m+n - 2*k:=⟨_,rfl⟩;obtain⟨R,hR⟩:∃R,R=(u - 1)*d+1:=⟨_,rfl⟩;have C:0<R:=oM;obtain⟨o,hS⟩:∃o,o=n - k:=⟨_,rfl⟩;obtain⟨G,hT⟩:∃G,G=m - k:=⟨_,rfl⟩;have B:u=o+G:=oM
 have a7:R-1+d=u*d:=by
  have:u*d=(u-1)*d+d:=by rw[<-Nat.succ_mul];congr 1;omega
  omega
 obtain⟨z,a0⟩:∃z,z=u*d+1:=⟨_,rfl⟩
 let mo:Nat->MP:=λj=>xk w (j%R)*xk v (j/R)
 have X:∀j,(mo j).deg w<=(R-1:Nat):=λj=>by show(xk w (j%R)*xk v (j/R)).deg w<=_;rw[deg_mul (xk_ne _ _) (xk_ne _ _),deg_xk,rQ I hv D];have:=Nat.mod_lt j C;omega
 have F:∀j,(mo j).deg v=(j/R:Nat):=λj=>by show(xk w (j%R)*xk v (j/R)).deg v=_;rw[deg_mul (xk_ne _ _) (xk_ne _ _),deg_xk,rQ hv I (Ne.symm D)];omega
 have a3:∀j,(VI v w R (o*R) p q j).deg w<=(u*d:Nat):=λj=>by
  unfold VI;split
  ·exact Int.le_trans (dh w _ _ (X j) hp oM) oM
  ·exact Int.le_trans (dh w _ _ (X (j-o*R)) hq oM) oM
 have a2:∀j,j<u*R->(VI v w R (o*R) p q j).deg v<=(m+n-k-1:Nat):=λj x=>by
  unfold VI;split
  ·rename_i h;have r:j/R<o:=(Nat.div_lt_iff_lt_mul C).2 h;have y:=F j;obtain⟨c,hc⟩:∃c:Nat,c=j/R:=⟨_,rfl⟩;rw[<-hc]at r y;exact Int.le_trans (dh v _ _ (Int.le_of_eq y) hm oM) oM
  ·rename_i h;have r:(j - o*R)/R<G:=(Nat.div_lt_iff_lt_mul C).2 (by rw[B,Nat.add_mul]at x;omega);have y:=F (j - o*R);obtain⟨c,hc⟩:∃c:Nat,c=(j - o*R)/R:=⟨_,rfl⟩;rw[<-hc]at r y;exact Int.le_trans (dh v _ _ (Int.le_of_eq y) hn oM) oM
 obtain⟨s,H,⟨W,j1,j2⟩,s3⟩:=WA (P:=λa=>a.fr v/\a.fr w) ⟨sN v,sN w⟩
  (λa b h J=>⟨by have:=sK v a b;have r:a.deg v<=0:=h.1;have y:b.deg v<=0:=J.1;show(a+b).deg v<=0;omega,by have:=sK w a b;have r:a.deg w<=0:=h.2;have y:b.deg w<=0:=J.2;show(a+b).deg w<=0;omega⟩)
  (λa b h J=>⟨wR h.1 J.1,wR h.2 J.2⟩)
  (λa h=>⟨Int.le_trans (GZ v a) h.1,Int.le_trans (GZ w a) h.2⟩)
  ((u-1)*z) (u*R) (λi j=>((VI v w R (o*R) p q j).co v (k+1+i/z)).co w (i%z))
  (λi j _ _=>⟨VH hv I (co_fr _ _ _),co_fr _ _ _⟩)
  (by
   rw[a0,hR];have r:(u-1)*(u*d+1)=(u-1)*(u*d)+(u-1):=by rw[Nat.mul_add,nU]
   have y:u*((u-1)*d+1)=u*((u-1)*d)+u:=by rw[Nat.mul_add,nU]
   have h3:(u-1)*(u*d)=u*((u-1)*d):=Nat.mul_left_comm _ _ _
   rw[r,y,h3];omega)
 let S:MP:=cO (λj=>s j*mo j) (o*R)
 let T:MP:=cO (λj=>s (o*R+j)*mo j) (G*R)
 have E:S*p+T*q=cO (λj=>s j*VI v w R (o*R) p q j) (u*R):=by
  rw[B,Nat.add_mul,wY,<-vW,<-vW]
  congr 1
  ·refine dI λj x=>?_;simp only[VI,if_pos x];show s j*mo j*p=_;grind
  ·refine dI λj x=>?_;simp only[VI,if_neg (oM:¬o*R+j<o*R),(oM:o*R+j-o*R=j)];show s (o*R+j)*mo j*q=_;grind
 have L:(S*p+T*q).deg w<=(u*d:Nat):=by rw[E];refine qx oM λj x=>?_;have:=dh w (s j) _ (H j x).2 (a3 j) oM;omega
 have a8:(S*p+T*q).deg v<=(m+n-k-1:Nat):=by rw[E];refine qx oM λj x=>?_;have:=dh v (s j) _ (H j x).1 (a2 j x) oM;omega
 have a4:∀l:Nat,k<l->(S*p+T*q).co v l=0:=λl hl=>by
  rcases Nat.lt_or_ge l (m+n - k)with hlt|hge
  ·obtain⟨g,hg⟩:∃g,g=(S*p+T*q).co v l:=⟨_,rfl⟩;rw[<-hg];have a9:g.deg w<=(u*d:Nat):=by rw[hg];exact rP v l _ I hv L
   have hz:∀b,g.co w b=0:=λb=>by
    rcases Nat.lt_or_ge b z with hb|hb
    ·have Y:(l-(k+1))*z+b<(u-1)*z:=by
      have r:l-(k+1)+1<=u-1:=oM;have:=Nat.mul_le_mul_right z r;rw[Nat.succ_mul]at this;omega
     have:=s3 _ Y
     have e1:((l-(k+1))*z+b)/z=l-(k+1):=by rw[Nat.add_comm,Nat.add_mul_div_right _ _ oM,Nat.div_eq_of_lt hb,Nat.zero_add]
     have Z:((l-(k+1))*z+b)%z=b:=by rw[Nat.add_comm,Nat.add_mul_mod_self_right,Nat.mod_eq_of_lt hb]
     simp only[e1,Z,(oM:k+1+(l-(k+1))=l)]at this;rw[hg,E,tu,tu,<-this];refine dI λj x=>?_;rw[co_mul_fr (H j x).1,co_mul_fr (H j x).2]
    ·exact co_above oM
   have:=split w g (N:=z) oM;rw[this,dI (g:=λ_=>0) λi _=>by rw[hz i];grind,nJ]
  ·exact co_above oM
 have O:∀(f:Nat->MP)(N:Nat),(∀j,j<N->(f j).fr v/\(f j).fr w)->cO (λj=>f j*mo j) N=0->∀j,j<N->f j=0:=by
  intro f N hf h0 j x;have r:=congrArg (λg=>(g.co v (j/R)).co w (j%R)) h0;simp only[tu]at r;rw[qw _ x ?_]at r
  ·rw[co_mul_fr (hf j x).1]at r
   have e:(mo j).co v (j/R)=xk w (j%R):=by show(xk w (j%R)*xk v (j/R)).co v (j/R)=_;rw[co_mul_fr (show(xk w (j%R)).fr v from by show(xk w (j%R)).deg v<=0;rw[rQ hv I (Ne.symm D)];omega),fP,if_pos rfl];grind
   rw[e,co_mul_fr (hf j x).2,fP,if_pos rfl]at r;have Z:(0:MP).co v (j/R)=0:=rfl;have e3:(0:MP).co w (j%R)=0:=rfl;rw[Z,e3]at r;grind
  ·intro i Y a5;show((f i*mo i).co v (j/R)).co w (j%R)=0;rw[co_mul_fr (hf i Y).1];show(f i*(xk w (i%R)*xk v (i/R)).co v (j/R)).co w (j%R)=0;rw[co_mul_fr (show(xk w (i%R)).fr v from by show(xk w (i%R)).deg v<=0;rw[rQ hv I (Ne.symm D)];omega),fP];by_cases r:j/R=i/R
   ·rw[if_pos r];have y:j%R≠i%R:=λy=>a5 (by have:=Nat.div_add_mod j R;have:=Nat.div_add_mod i R;rw[r,y]at *;omega);have e:f i*(xk w (i%R)*1)=f i*xk w (i%R):=gR;rw[e,co_mul_fr (hf i Y).2,fP,if_neg y];grind
   ·rw[if_neg r];have e:f i*(xk w (i%R)*0)=0:=gR;rw[e];rfl
 refine⟨S,T,?_,?_,deg_le_of oM λl hl=>a4 l oM,?_⟩
 ·by_cases K:S=0
  ·refine .inr λa1=>j2 ?_;have M:o*R<=u*R:=Nat.mul_le_mul_right R oM;rcases Nat.lt_or_ge W (o*R)with h|h
   ·exact O s _ (λj x=>H j oM) K W h
   ·have a6:u*R=o*R+G*R:=by rw[B,Nat.add_mul]
    have:=O (λj=>s (o*R+j)) (G*R) (λj x=>H _ oM) a1 (W-o*R) oM;simp only[(oM:o*R+(W-o*R)=W)]at this;exact this
  ·exact .inl K
 ·have:S.deg v<=(o-1:Nat):=qx oM λj x=>by
   have r:j/R<o:=(Nat.div_lt_iff_lt_mul C).2 x;have M:o*R<=u*R:=Nat.mul_le_mul_right R oM;have y:=F j;obtain⟨c,hc⟩:∃c:Nat,c=j/R:=⟨_,rfl⟩;rw[<-hc]at r y;have:=dh v (s j) (mo j) (H j oM).1 (Int.le_of_eq y) oM;omega
  omega
 ·rw[<-hu];exact L
end MP
end Q
end
