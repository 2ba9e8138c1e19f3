/- MgcdResultantLaws, plain: resultants with products and with v - p. No program in sight. -/
import Derived.Test.YtopclbeomcggiaaGreatZ37
set_option linter.unusedVariables false
set_option linter.unusedSimpArgs false
set_option maxHeartbeats 16000000
set_option maxRecDepth 100000
section
namespace Q
open Go Go.Proofs.YtopclbeomcggiaaGreat
structure xV (u v B E:Nat) (p:List ai):Prop where
 vl:aY p
 d:∀t∈p,Dv 1 t.2
 b:bL p<=(B:Rat)
 e:∀t∈p,t.1.get u<=E/\t.1.get v<=E
 o:∀t∈p,∀x,x<4->x≠u->x≠v->t.1.get x=0
theorem xV.mono{u v B E B' E':Nat}{p:List ai}(h:xV u v B E p)(i:B<=B')(k:E<=E'):xV u v B' E' p :=
 ⟨h.vl,h.d,Rat.le_trans h.b (Rat.natCast_le_natCast.2 i),λt j=>by have:=h.e t j;omega,h.o⟩
theorem xV.bd{u v B E:Nat}{p:List ai}(h:xV u v B E p):Bd ⟨1,B,E,p.length⟩ p:=by
 refine⟨nL _,λt k=>?_,h.d,h.b⟩
 have g:∀x,x<4->0<=t.1.get x/\t.1.get x<=E:=λx q=>by
  refine⟨Ex.nat_get (h.vl.nat t k) x,?_⟩;by_cases i:x=u
  ·subst i;exact(h.e t k).1
  ·by_cases j:x=v
   ·subst j;exact(h.e t k).2
   ·rw[h.o t k x q i j];omega
 have l:=g 0 oM;have g1:=g 1 oM;have m:=g 2 oM;have n:=g 3 oM;simp only[Ex.get]at l g1 m n;dsimp only;omega
theorem xV.coeff{u v B E:Nat}{p:List ai}(h:xV u v B E p)(hu:u<4)(hv:v<4)(m:u≠v)(i:Int):En u B E (aG p v i):=by
 have hb:=KR h.bd v i;refine⟨h.vl.coeff v i,hb.d,hb.b,λt l=>?_,λt l x q n=>?_⟩
 ·obtain⟨s,k,rfl⟩:=List.mem_map.1 l;have:=(List.mem_filter.1 k).1;show(s.1.put v 0).get u<=_;rw[Ex.get_put_ne _ hv hu (Ne.symm m)];exact(h.e s this).1
 ·obtain⟨s,k,rfl⟩:=List.mem_map.1 l;have:=(List.mem_filter.1 k).1;show(s.1.put v 0).get x=0;by_cases j:x=v
  ·subst j;exact Ex.get_put _ _ _
  ·rw[Ex.get_put_ne _ hv q (Ne.symm j)];exact h.o s this x q n j
theorem mD{p:List ai}(h:aY p)(b:p≠[])(v:Nat):aH p v=((aH p v).toNat:Int):=by obtain⟨t,d,e⟩:=lU b h.nat v;have:=Ex.nat_get (h.nat t d) v;omega
theorem xV.deg{u v B E:Nat}{p:List ai}(h:xV u v B E p)(b:p≠[]):(aH p v).toNat<=E:=by obtain⟨t,d,e⟩:=lU b h.vl.nat v;have:=h.e t d;omega
section
variable {u v:Nat} {a b c:List ai}
theorem zai(hu:u<4)(hv:v<4)(d:u≠v)(ha:xV u v 15 2 a)(hb:xV u v 225 4 b)(e:a≠[])(k:b≠[]) :
  Sy u 15 225 4 (aH a v).toNat (aH b v).toNat (aB a v) (aB b v) (aG a v (aH a v)):=by
 have da:=mD ha.vl e v;have l:=mD hb.vl k v
 have row:∀{p:List ai}{B E:Nat},xV u v B E p->∀i j,En u B E (jq (aB p v) i j):=λ{p B E} hp i j=>by
  rw[jq];split
  ·next h =>
   rw[bv]at h;rw[bv,jI oM];exact hp.coeff hu hv d _
  ·exact En.nil _ _ _
 refine⟨hu,by rw[bv];omega,by rw[bv];omega,?_,ha.vl.coeff_ne e v,row ha,row hb,ha.coeff hu hv d _,oM,oM⟩;rw[jI oM,<-da]
theorem Xa(i:aY a)(j:aY b)(d:a≠[])(e:b≠[]):Ak a b v=resS ((aH a v).toNat+(aH b v).toNat) ((aH a v).toNat+(aH b v).toNat) (xY (aB a v) (aB b v)) qd false:=by have da:=mD i d v;have k:=mD j e v;rw[Ak,if_neg (by rintro (h|h)<;>contradiction),bv,bv,(oM:(aH a v+1).toNat - 1=(aH a v).toNat),(oM:(aH b v+1).toNat - 1=(aH b v).toNat)]
theorem AQ(x:Pt)(g:Nat->Rat)(h:aY b):sL x g (aB b v)=Lf (λe=>lw x (e.put v 0)*g (e.get v).toNat) b:=by rw[sL,bv,zC x v g _ h.nat H5];exact dO λi d=>by rw[jI d]
theorem Fe(x:Pt)(c:Rat)(p:List ai):Lf (λe=>lw x (e.put v 0)*c^(e.get v).toNat) p=ev (x.put v c) p:=iU λt _=>(Cb x t.1 v c).symm
theorem Xb(hu:u<4)(hv:v<4)(q:u≠v)(ha:xV u v 15 2 a)(hb:xV u v 225 4 b)(n:a≠[])(o:b≠[]) :
  ∃d,Ak a b v=some d/\En u (2^100) 40 d/\∀x,ev x (aG a v (aH a v))≠0 ->
   (aH a v=0->ev x d=ev x (aG a v (aH a v))^(aH b v).toNat) /\
   (aH a v=1->∀c,ev x (aG a v 0)=-(c*ev x (aG a v 1))->ev x d=ev x (aG a v 1)^(aH b v).toNat * ev (x.put v c) b) /\
   (aH a v=2->∀c1 c0,ev x (aG a v 1)=c1*ev x (aG a v 2)->ev x (aG a v 0)=c0*ev x (aG a v 2)->ev x d=ev x (aG a v 2)^(aH b v).toNat * pF c1 c0 (mr x v c1 c0 b) (tC x v c1 c0 b)):=by
 have k:=zai hu hv q ha hb n o;have hm:=ha.deg n;have p:=hb.deg o;have da:=mD ha.vl n v;have y:=mD hb.vl o v;rw[Xa ha.vl hb.vl n o];have g:∀i:Nat,i<(aH a v+1).toNat->(aB a v).getD i []=aG a v i:=λi r=>jI r;obtain h0|h0|h0:(aH a v).toNat=0\/(aH a v).toNat=1\/(aH a v).toNat=2:=oM
 ·rw[h0]at k ⊢;obtain⟨d,l,m,e⟩:=U6 k p;exact⟨d,l,m,λx j=>⟨λ_=>e x j,λh=>oM,λh=>oM⟩⟩
 ·rw[h0]at k ⊢;obtain⟨d,l,m,e⟩:=U7 k p;refine⟨d,l,m,λx j=>⟨λh=>oM,λh c hc=>?_,λh=>oM⟩⟩;rw[g 0 oM]at e;have e1:aG a v (aH a v)=aG a v 1:=by rw[h]
  rw[e1]at e j;rw[e x c j hc,AQ x _ hb.vl,Fe]
 ·rw[h0]at k ⊢;obtain⟨d,l,m,e⟩:=U8 k p;refine⟨d,l,m,λx j=>⟨λh=>oM,λh=>oM,λh c1 c0 s k0=>?_⟩⟩;rw[g 0 oM,g 1 oM]at e;have e1:aG a v (aH a v)=aG a v 2:=by rw[h]
  rw[e1]at e j;rw[e x c1 c0 j s k0,AQ x _ hb.vl,AQ x _ hb.vl];rfl
end
theorem Ff(L:List vH){u v:Nat}(h:u=0/\v=1\/u=1/\v=0):xV u v 15 2 (fV L):=by
 have hp:=wG L;have i:=Q9 L;refine⟨hp.v,hp.b.d,hp.b.b,λt e=>?_,λt e x n o p=>?_⟩
 ·obtain⟨j,k,l,m⟩:=i t e;rcases h with ⟨rfl,rfl⟩|⟨rfl,rfl⟩<;>simp only[Ex.get]<;>omega
 ·obtain⟨j,k,l,m⟩:=i t e;have:x=2\/x=3:=oM;rcases this with rfl|rfl<;>simp only[Ex.get]<;>omega
end Q
end
section
namespace Q
open MP Go.Proofs.YtopclbeomcggiaaGreat
def fe (M:Mx) (k:Nat):Mx:=M.tail.map λr=>r.take k++r.drop (k+1)
def wT (f:Nat->List ai) (row:List (List ai)):Nat->List ai
 | 0=>[]
 | k+1=>if row.getD k []=[]then wT f row k else mP (wT f row k) (if k%2=1 then dL [] (aO (row.getD k []) (f k))else aO (row.getD k []) (f k))
def nW:Nat->Mx->List ai
 | 0,_=>qd
 | n+1,M=>wT (λk=>nW n (fe M k)) (M.getD 0 []) (n+1)
structure Dt (u n:Nat) (M:Mx):Prop where
 len:M.length=n
 rows:∀r∈M,r.length=n
 el:∀r∈M,∀c∈r,En u 15 2 c
theorem Dt.minor{u n k:Nat}{M:Mx}(h:Dt u (n+1) M)(e:k<n+1):Dt u n (fe M k):=by
 refine⟨by rw[fe,List.length_map,List.length_tail,h.len];omega,λr b=>?_,λr b c hc=>?_⟩
 ·obtain⟨s,d,rfl⟩:=List.mem_map.1 b;have:=h.rows s (List.mem_of_mem_tail d);rw[List.length_append,List.length_take,List.length_drop,this];omega
 ·obtain⟨s,d,rfl⟩:=List.mem_map.1 b;refine h.el s (List.mem_of_mem_tail d) c ?_;rcases List.mem_append.1 hc with hc|hc
  ·exact List.mem_of_mem_take hc
  ·exact List.mem_of_mem_drop hc
theorem Dt.get{u n:Nat}{M:Mx}(h:Dt u n M)(i j:Nat):En u 15 2 (iT M i j):=by
 unfold iT;rcases Nat.lt_or_ge i M.length with hi|hi
 ·rw[jD (l:=M),gE hi,Option.getD_some];rcases Nat.lt_or_ge j M[i].length with hj|hj
  ·rw[jD,gE hj];exact h.el _ (List.getElem_mem hi) _ (List.getElem_mem hj)
  ·rw[jD,gN hj];exact En.nil _ _ _
 ·rw[jD (l:=M),gN hi];simp;exact En.nil _ _ _
theorem Ry{u n k:Nat}{M:Mx}(h:Dt u (n+1) M)(p:k<n+1){i j:Nat}(m:i<n)(o:j<n):iT (fe M k) i j=iT M (i+1) (sG k j):=by
 have q:=h.len;have d:M[i+1]?=some (M[i+1]'(oM)):=gE _;have e:(M[i+1]'(oM)).length=n+1:=h.rows _ (List.getElem_mem _);unfold iT fe;rw[jD (l:=List.map _ _),List.getElem?_map,List.getElem?_tail,d,jD (l:=M),d];simp only[Option.map_some,Option.getD_some];generalize M[i+1]'(oM)=r at e;rw[jD,jD,List.getElem?_append,List.length_take,e];unfold sG;by_cases b:j<k
 ·rw[if_pos oM,if_pos b,List.getElem?_take,if_pos b]
 ·rw[if_neg oM,if_neg b,List.getElem?_drop];congr 2;omega
def dtB:Nat->Nat
 | 0=>1
 | n+1=>(n+1)*(15*dtB n)
theorem Jl{u B E N:Nat}(hu:u<4){f:Nat->List ai}{row:List (List ai)}(hf:∀k,k<N->En u B E (f k))(b:∀k,En u 15 2 (row.getD k [])):∀k,k<=N->En u (k*(15*B)) (2+E) (wT f row k)
 | 0,_=>En.nil _ _ _
 | k+1,hk=>by
  have d:=Jl hu hf b k oM;have hm:=(b k).mul (hf k oM) hu;rw[wT];split
  ·exact d.mono (Nat.mul_le_mul_right _ oM) (nL _)
  ·refine(d.add (B':=15*B) (E':=2+E) ?_ hu).mono (by rw[Nat.add_mul,Nat.one_mul];exact nL _) oM;split
   ·exact((En.nil u 0 (2+E)).sub hm hu).mono oM oM
   ·exact hm
theorem Jm{u:Nat}(hu:u<4):∀(n:Nat)(M:Mx),Dt u n M->En u (dtB n) (2*n) (nW n M)
 | 0,_,_=>En.one u
 | n+1,M,h=>by rw[nW,dtB];exact(Jl (N:=n+1) (row:=M.getD 0 []) hu (λk b=>Jm hu n _ (h.minor b)) (λk=>h.get 0 k) (n+1) (nL _)).mono (nL _) (by omega)
def zD:Nat->(Nat->Nat->Rat)->Rat
 | 0,_=>1
 | n+1,F=>bF (λk=>if k%2=1 then -(F 0 k*zD n (λi j=>F (i+1) (sG k j)))else F 0 k*zD n (λi j=>F (i+1) (sG k j))) (n+1)
theorem xW:∀(n:Nat){F G:Nat->Nat->Rat},(∀i j,i<n->j<n->F i j=G i j)->zD n F=zD n G
 | 0,_,_,_=>rfl
 | n+1,F,G,h=>by rw[zD,zD];refine dO λk d=>?_;have e:=xW n (F:=λi j=>F (i+1) (sG k j)) (G:=λi j=>G (i+1) (sG k j)) λi j l b=>h _ _ oM (DN b);rw[e,h 0 k oM d]
theorem Qb{u N:Nat}(x:Pt){f:Nat->List ai}{row:List (List ai)}(hf:∀k,k<N->aY (f k))(h:∀k,aY (row.getD k [])):∀k,k<=N->aY (wT f row k)/\ev x (wT f row k)=bF (λk=>if k%2=1 then -(ev x (row.getD k [])*ev x (f k))else ev x (row.getD k [])*ev x (f k)) k
 | 0,_=>⟨aY.nil,rfl⟩
 | k+1,hk=>by
  obtain⟨b,d⟩:=Qb (u:=u) x hf h k oM;rw[wT,bF];split
  ·next e=>refine⟨b,?_⟩;rw[d,e,dJ];split<;>grind
  ·refine⟨aY.add _ _,?_⟩;have em:=ev_mul x (h k).nat (hf k oM).nat;split
   ·rw[ev_add x b.nat (aY.sub _ _).nat,d,ev_sub x aY.nil.nat (aY.mul _ _),em,dJ];grind
   ·rw[ev_add x b.nat (aY.mul _ _).nat,d,em]
theorem U9{u:Nat}(hu:u<4)(x:Pt):∀(n:Nat)(M:Mx),Dt u n M->ev x (nW n M)=zD n (λi j=>ev x (iT M i j))
 | 0,_,_=>by show ev x (cK 1)=1;exact mQ x 1
 | n+1,M,h=>by
  rw[nW,zD,(Qb (u:=u) (N:=n+1) (row:=M.getD 0 []) x (λk b=>(Jm hu n _ (h.minor b)).v) (λk=>(h.get 0 k).v) (n+1) (nL _)).2];refine dO λk b=>?_
  have e:ev x (nW n (fe M k))=zD n (λi j=>ev x (iT M (i+1) (sG k j))):=by rw[U9 hu x n _ (h.minor b)];exact xW n λi j d l=>by rw[Ry h b d l]
  rw[e];rfl
def Rz (m n:Nat) (A B:Nat->Rat) (i j:Nat):Rat :=
 if n<=i then(if i-n<=j/\j<=i then B (i-j)else 0)else(if i<=j/\j<=i+m then A (i+m-j)else 0)
def BV (m n:Nat) (A B:Nat->Rat):Rat:=zD (m+n) (Rz m n A B)
theorem RA{m n:Nat}(hm:m<=2)(b:n<=2)(A B:Nat->Rat):BV n m B A=if m*n%2=1 then -(BV m n A B)else BV m n A B:=by
 obtain rfl|rfl|rfl:m=0\/m=1\/m=2:=oM
 all_goals obtain rfl|rfl|rfl:n=0\/n=1\/n=2:=oM
 all_goals simp[BV,zD,bF,Rz,sG]
 all_goals grind
theorem Va{n:Nat}(b:n<=2)(A B:Nat->Rat):BV 0 n A B=A 0^n:=by
 obtain rfl|rfl|rfl:n=0\/n=1\/n=2:=oM
 all_goals simp[BV,zD,bF,Rz,sG]
 all_goals grind
theorem Vb{n:Nat}(b:n<=2)(A B:Nat->Rat){c:Rat}(h:A 0=-(c*A 1)):BV 1 n A B=A 1^n*bF (λi=>B i*c^i) (n+1):=by
 obtain rfl|rfl|rfl:n=0\/n=1\/n=2:=oM
 all_goals simp[BV,zD,bF,Rz,sG,h]
 all_goals grind
theorem Vd{n:Nat}(e:n<=2)(A B:Nat->Rat){c1 c0:Rat}(d:A 1=c1*A 2)(b:A 0=c0*A 2):BV 2 n A B=A 2^n*pF c1 c0 (bF (λi=>B i*(gq c1 c0 i).1) (n+1)) (bF (λi=>B i*(gq c1 c0 i).2) (n+1)):=by
 obtain rfl|rfl|rfl:n=0\/n=1\/n=2:=oM
 all_goals simp[BV,zD,bF,Rz,sG,d,b,gq,pF]
 all_goals grind
def qV (a b:List ai) (v:Nat):List ai :=
 if a=[]\/b=[]then []else nW ((aH a v).toNat+(aH b v).toNat) (xY (aB a v) (aB b v))
section
variable {u v:Nat} {a b:List ai}
theorem Ve{B E:Nat}(hu:u<4)(hv:v<4)(b:u≠v)(hp:xV u v B E a)(i j:Nat):En u B E (jq (aB a v) i j):=by
 rw[jq];split
 ·next h =>
  rw[bv]at h;rw[bv,jI oM];exact hp.coeff hu hv b _
 ·exact En.nil _ _ _
theorem Vf(h:aY a)(i:aY b)(d:a≠[])(e:b≠[]):Cu ((aH a v).toNat+(aH b v).toNat) (xY (aB a v) (aB b v)) (il (aB a v) (aB b v) (aH b v).toNat) :=
 P6 (by rw[bv];have:=mD h d v;omega) (by rw[bv];have:=mD i e v;omega)
theorem Oo(hu:u<4)(hv:v<4)(m:u≠v)(ha:xV u v 15 2 a)(hb:xV u v 15 2 b)(q:a≠[])(s:b≠[]):Dt u ((aH a v).toNat+(aH b v).toNat) (xY (aB a v) (aB b v)):=by
 have h:=Vf (v:=v) ha.vl hb.vl q s;refine⟨h.len,h.rows,λr p c hc=>?_⟩;obtain⟨i,n,rfl⟩:=List.mem_iff_getElem.1 p;obtain⟨j,o,rfl⟩:=List.mem_iff_getElem.1 hc;have d:=n;have k:=o;rw[h.len]at d;rw[h.rows _ p]at k;have e:=h.el i j d k;unfold iT at e;rw[jD (l:=xY _ _),gE n,Option.getD_some,jD,gE o,Option.getD_some]at e;rw[e,il];split
 ·exact Ve hu hv m hb _ _
 ·exact Ve hu hv m ha _ _
theorem Qc(x:Pt)(d:a≠[])(e:aY a)(i j:Nat):ev x (jq (aB a v) i j)=if i<=j/\j<=i+(aH a v).toNat then ev x (aG a v ((i+(aH a v).toNat-j:Nat):Int))else 0:=by
 have hd:=mD e d v;have b:(aB a v).length=(aH a v).toNat+1:=by rw[bv];omega
 rw[jq,b];by_cases h:i<=j/\j<=i+(aH a v).toNat
 ·rw[if_pos h,if_pos ⟨h.1,oM⟩,(oM:i+((aH a v).toNat+1)-1-j=i+(aH a v).toNat-j),jI oM]
 ·rw[if_neg h,if_neg oM,dJ]
theorem Cz(hu:u<4)(hv:v<4)(d:u≠v)(ha:xV u v 15 2 a)(hb:xV u v 15 2 b)(k:a≠[])(l:b≠[])(x:Pt) :
  ev x (qV a b v)=BV (aH a v).toNat (aH b v).toNat (λi=>ev x (aG a v (i:Nat))) (λi=>ev x (aG b v (i:Nat))):=by
 have h:=Vf (v:=v) ha.vl hb.vl k l;rw[qV,if_neg (by rintro (e|e)<;>contradiction),U9 hu x _ _ (Oo hu hv d ha hb k l),BV];refine xW _ λi j m n=>?_;rw[h.el i j m n,il,Rz];split
 ·next e =>
  rw[Qc x l hb.vl];by_cases c:i-(aH b v).toNat<=j/\j<=i
  ·rw[if_pos c,if_pos ⟨c.1,oM⟩];congr 2;omega
  ·rw[if_neg c,if_neg oM]
 ·exact Qc x k ha.vl i j
theorem AR(hu:u<4)(hv:v<4)(d:u≠v)(ha:xV u v 15 2 a)(hb:xV u v 15 2 b):En u (2^100) 40 (qV a b v):=by
 rw[qV];split
 ·exact En.nil _ _ _
 ·next h =>
  have i:a≠[]:=λe=>h (.inl e);have j:b≠[]:=λe=>h (.inr e);have hm:=ha.deg i;have m:=hb.deg j;have l:∀k,k<=4->dtB k<=2^100:=dK;exact(Jm hu _ _ (Oo hu hv d ha hb i j)).mono (l _ oM) oM
theorem Hl(x:Pt)(g:Nat->Rat)(d:aY b)(j:b≠[]):bF (λi=>ev x (aG b v (i:Nat))*g i) ((aH b v).toNat+1)=Lf (λe=>lw x (e.put v 0)*g (e.get v).toNat) b:=by have:=mD d j v;rw[zC x v g ((aH b v).toNat+1) d.nat λt h=>by have:=fw h v;omega]
theorem Vg(hu:u<4)(hv:v<4)(j:u≠v)(ha:xV u v 15 2 a)(hb:xV u v 15 2 b):Ak a b v=some (qV a b v):=by
 by_cases h:a=[]\/b=[]
 ·rw[Ak,qV,if_pos h,if_pos h]
 have l:a≠[]:=λe=>h (.inl e);have k:b≠[]:=λe=>h (.inr e);obtain⟨d,o,p,q⟩:=Xb hu hv j ha (hb.mono oM oM) l k;rw[o];congr 1;have hm:=ha.deg l;have m:=hb.deg k;have da:=mD ha.vl l v;refine U4 p.v (AR hu hv j ha hb).v (ha.vl.coeff v (aH a v)) (ha.vl.coeff_ne l v) λx n=>?_;obtain⟨r,p1,p2⟩:=q x n;rw[Cz hu hv j ha hb l k x];obtain h0|h0|h0:aH a v=0\/aH a v=1\/aH a v=2:=oM
 ·rw[r h0,h0,show(0:Int).toNat=0 from rfl,Va m];rfl
 ·rw[h0]at n;obtain⟨c,e⟩:∃c,ev x (aG a v 0)=-(c*ev x (aG a v 1)):=⟨-(ev x (aG a v 0)/ev x (aG a v 1)),gR⟩;rw[p1 h0 c e,h0,show(1:Int).toNat=1 from rfl,Vb m _ _ (c:=c) e,Hl x (λi=>c^i) hb.vl k,Fe];rfl
 ·rw[h0]at n;obtain⟨c1,e1⟩:∃c1,ev x (aG a v 1)=c1*ev x (aG a v 2):=⟨ev x (aG a v 1)/ev x (aG a v 2),gR⟩;obtain⟨c0,e0⟩:∃c0,ev x (aG a v 0)=c0*ev x (aG a v 2):=⟨ev x (aG a v 0)/ev x (aG a v 2),gR⟩;rw[p2 h0 c1 c0 e1 e0,h0,show(2:Int).toNat=2 from rfl,Vd m _ _ (c1:=c1) (c0:=c0) e1 e0,Hl x (λi=>(gq c1 c0 i).1) hb.vl k,Hl x (λi=>(gq c1 c0 i).2) hb.vl k];rfl
theorem Vh(hu:u<4)(hv:v<4)(d:u≠v)(ha:xV u v 15 2 a)(hb:xV u v 15 2 b)(h:a≠[])(j:b≠[]) :
  qV a b v=if((aH a v).toNat * (aH b v).toNat)%2=1 then dL [] (qV b a v)else qV b a v:=by
 have l:=(AR hu hv d ha hb).v;have k:=(AR hu hv d hb ha).v;refine lK l (by split;exact aY.sub _ _;exact k) λx=>?_;have e:=RA (hb.deg j) (ha.deg h) (λi=>ev x (aG b v (i:Nat))) (λi=>ev x (aG a v (i:Nat)));rw[<-Cz hu hv d ha hb h j x,<-Cz hu hv d hb ha j h x,Nat.mul_comm]at e;rw[e];split
 ·rw[ev_sub x aY.nil.nat k,dJ];grind
 ·rfl
end
theorem Vi{v:Nat}{b:MP}(hb:b.fr v):∀s:Nat,(b^s).fr v
 | 0=>by have e:b^0=1:=gR;rw[e];exact rR v
 | s+1=>by have e:b^(s+1)=b^s*b:=gR;rw[e];exact rQ (Vi hb s) hb
theorem Vj{v:Nat}:∀(N:Nat)(p q:MP),q≠0->(q.deg v).toNat<N->∃S T h k:MP,S*p+T*q=h/\h≠0/\k≠0/\k.fr v/\h∣k*p/\h∣k*q
 | 0,_,_,_,hN=>by omega
 | N+1,p,q,q0,hN=>by
  by_cases hq:q.fr v
  ·exact⟨0,1,q,q,by grind,q0,q0,hq,dvd_mul_right q p,dvd_mul_right q q⟩
  obtain⟨w,s,e,hd⟩:=Aw (a:=p) q0 v;have hc:=Vi (lc_fr v q) s;have c0:=I6 (lc_ne q0 v) s;generalize(q.lc v)^s=c at e hc c0;by_cases i:nu v p q=0
  ·exact⟨0,1,q,c,gR,q0,c0,hc,⟨w,by rw[e,i];grind⟩,dvd_mul_left q c⟩
  ·have r:¬q.deg v<=0:=hq;obtain⟨S,T,h,k,j,l,m,n,d,o⟩:=Vj (v:=v) N q (nu v p q) i oM;have e2:nu v p q=c*p - w*q:=gR;refine⟨T*c,S - T*w,h,k*c,by rw[<-j,e2];grind,l,mul_ne m c0,rQ n hc,?_,?_⟩
   ·have b:k*c*p=w*(k*q)+k*nu v p q:=by rw[e2];grind
    rw[b];exact dvd_add (dvd_mul_of' d w) o
   ·have b:k*c*q=c*(k*q):=gR;rw[b];exact dvd_mul_of' d c
theorem Mf{v:Nat}{a b g:MP}(b0:b≠0)(hg:NG g a b)(hf:g.deg v<=0):∃S T d:MP,S*a+T*b=d/\d≠0/\d.deg v<=0:=by
 obtain⟨S,T,h,k,q,s,l,x,y,z⟩:=Vj (v:=v) ((b.deg v).toNat+1) a b b0 oM;refine⟨S,T,h,q,s,?_⟩;obtain⟨G,-,n⟩:=zY 4 (nL 4) (a*k) (b*k) (Y7 _) (Y7 _);have p:=mul_ne b0 l;have m:G≠0:=dvd_ne p n.r;have B:NG (nrm G) (a*k) (b*k):=⟨GV n m,λ_=>xP m⟩;have e:=hg.fac B;have o:g≠0:=dvd_ne b0 hg.i.r;have j:=I5 l
 have hd:h∣nrm k*g:=by rw[<-e];exact dvd_trans (n.u h (by rw[gX];exact y) (by rw[gX];exact z)) (iD m).2
 have d1:=dvd_deg (mul_ne j o) hd v;rw[deg_mul j o]at d1;have d2:(nrm k).deg v<=0:=tV l (iD l).1 x;omega
theorem Mg{p:MP}(h:p≠0):∃x,p.ev x≠0:=by refine Classical.byContradiction λb=>h (ext' λx=>?_);rw[ev_zero];exact Classical.byContradiction λe=>b ⟨x,e⟩
theorem BI(x:Pt)(v:Nat)(g:Nat->Rat)(p:MP){N:Nat}(h:p.deg v<N):Lf (λe=>lw x (e.put v 0)*g (e.get v).toNat) p.l=bF (λi=>(p.co v i).ev x*g i) N :=
 zC x v g N p.v.nat λt b=>by have d:=fw b v;have j:aH p.l v<N:=h;omega
theorem Vk{v:Nat}(x:Pt)(c:Rat){p:MP}(h:p.deg v<=0):p.ev (x.put v c)=p.ev x:=by
 have e:=BI x v (λi=>c^i) p (N:=1) oM;have e2:(p.co v 0).ev x=p.ev x:=by rw[DI h]
 show ev _ _=_;rw[<-Fe,e,bF,bF,e2,Rat.pow_zero];grind
theorem zaj{v:Nat}(x:Pt)(c1 c0:Rat){p:MP}(h:p.deg v<=0):mr x v c1 c0 p.l=0/\tC x v c1 c0 p.l=p.ev x:=by
 have e2:(p.co v 0).ev x=p.ev x:=by rw[DI h]
 constructor
 ·show Lf _ _=_;rw[BI x v (λi=>(gq c1 c0 i).1) p (N:=1) oM,bF,bF,e2];simp only[gq];grind
 ·show Lf _ _=_;rw[BI x v (λi=>(gq c1 c0 i).2) p (N:=1) oM,bF,bF,e2];simp only[gq];grind
theorem Y5{p1 p2 r s c1 c0:Rat}(d:p1*s+p2*r-c1*(p1*r)=0)(e:p2*s-c0*(p1*r)=0)(b:pF c1 c0 r s≠0):p1=0/\p2=0:=by
 have e1:p1*pF c1 c0 r s=0:=by unfold pF;grind
 have e2:p2*pF c1 c0 r s=0:=by unfold pF;grind
 constructor
 ·rcases Rat.mul_eq_zero.1 e1 with h|h
  ·exact h
  ·exact absurd h b
 ·rcases Rat.mul_eq_zero.1 e2 with h|h
  ·exact h
  ·exact absurd h b
theorem CB{c:Rat}(h:c≠0):∀n:Nat,c^n≠0
 | 0=>by rw[Rat.pow_zero];decide
 | n+1=>by rw[Rat.pow_succ];exact jr (CB h n) h
theorem Vm{u v:Nat}(hu:u<4)(hv:v<4)(K:u≠v){a b g:MP}(ha:xV u v 15 2 a.l)(hb:xV u v 15 2 b.l)(a0:a≠0)(b0:b≠0)(hg:NG g a b):qV a.l b.l v=[]↔0<g.deg v:=by
 have na:a.l≠[]:=λe=>a0 (zero_iff.2 e);have L:b.l≠[]:=λe=>b0 (zero_iff.2 e);have vs:=(AR hu hv K ha hb).v;have key:=Cz hu hv K ha hb na L;have hz:∀x,(⟨qV a.l b.l v,vs⟩:MP).ev x=ev x (qV a.l b.l v):=λ_=>rfl;have hm:=ha.deg na;have Z:=hb.deg L;have da:=mD ha.vl na v;have g0:g≠0:=dvd_ne b0 hg.i.r;have dg:=dvd_deg a0 hg.i.l v;have a1:a.deg v=aH a.l v:=rfl;have n:=lc_ne a0 v;have o:∀x,(a.lc v).ev x=ev x (aG a.l v ((aH a.l v).toNat:Int)):=λ_=>rfl;have s:∀x i,(a.co v i).ev x=ev x (aG a.l v (i:Nat)):=λ_ _=>rfl
 -- the value at a point,for each degree
 have R:∀x,aH a.l v=0->ev x (qV a.l b.l v)=(a.lc v).ev x^(aH b.l v).toNat:=λx k=>by rw[key,o,k,show(0:Int).toNat=0 from rfl,Va Z]
 have z:∀x c,aH a.l v=1->ev x (aG a.l v (0:Nat))=-(c*ev x (aG a.l v (1:Nat)))->ev x (qV a.l b.l v)=(a.lc v).ev x^(aH b.l v).toNat * b.ev (x.put v c):=λx c k e=>by rw[key,o,k,show(1:Int).toNat=1 from rfl,Vb Z _ _ (c:=c) e,Hl x (λi=>c^i) hb.vl L,Fe];rfl
 have B:∀x c1 c0,aH a.l v=2->ev x (aG a.l v (1:Nat))=c1*ev x (aG a.l v (2:Nat))->ev x (aG a.l v (0:Nat))=c0*ev x (aG a.l v (2:Nat))->ev x (qV a.l b.l v)=(a.lc v).ev x^(aH b.l v).toNat * pF c1 c0 (mr x v c1 c0 b.l) (tC x v c1 c0 b.l):=λx c1 c0 k e1 e0=>by rw[key,o,k,show(2:Int).toNat=2 from rfl,Vd Z _ _ (c1:=c1) (c0:=c0) e1 e0,Hl x (λi=>(gq c1 c0 i).1) hb.vl L,Hl x (λi=>(gq c1 c0 i).2) hb.vl L];rfl
 have root:∀x,(a.lc v).ev x≠0->aH a.l v=1->∃c,ev x (aG a.l v (0:Nat))=-(c*ev x (aG a.l v (1:Nat)))/\a.ev (x.put v c)=0:=λx j k=>by rw[o,k,show(1:Int).toNat=1 from rfl]at j;obtain⟨c,e⟩:∃c,ev x (aG a.l v (0:Nat))=-(c*ev x (aG a.l v (1:Nat))):=⟨-(ev x (aG a.l v (0:Nat))/ev x (aG a.l v (1:Nat))),gR⟩;refine⟨c,e,?_⟩;show ev _ _=_;rw[<-Fe,BI x v (λi=>c^i) a (N:=2) oM,bF,bF,bF,s,s,e,Rat.pow_zero,show c^1=c by rw[Rat.pow_succ,Rat.pow_zero];grind];grind
 have roots:∀x,(a.lc v).ev x≠0->aH a.l v=2->∃c1 c0,ev x (aG a.l v (1:Nat))=c1*ev x (aG a.l v (2:Nat))/\ev x (aG a.l v (0:Nat))=c0*ev x (aG a.l v (2:Nat))/\mr x v c1 c0 a.l=0/\tC x v c1 c0 a.l=0:=λx j k=>by
  rw[o,k,show(2:Int).toNat=2 from rfl]at j;obtain⟨c1,e1⟩:∃c1,ev x (aG a.l v (1:Nat))=c1*ev x (aG a.l v (2:Nat)):=⟨ev x (aG a.l v (1:Nat))/ev x (aG a.l v (2:Nat)),gR⟩;obtain⟨c0,e0⟩:∃c0,ev x (aG a.l v (0:Nat))=c0*ev x (aG a.l v (2:Nat)):=⟨ev x (aG a.l v (0:Nat))/ev x (aG a.l v (2:Nat)),gR⟩;refine⟨c1,c0,e1,e0,?_,?_⟩
  ·show Lf _ _=_;rw[BI x v (λi=>(gq c1 c0 i).1) a (N:=3) oM,bF,bF,bF,bF,s,s,s,e1,e0];simp only[gq];grind
  ·show Lf _ _=_;rw[BI x v (λi=>(gq c1 c0 i).2) a (N:=3) oM,bF,bF,bF,bF,s,s,s,e1,e0];simp only[gq];grind
 obtain k|k|k:aH a.l v=0\/aH a.l v=1\/aH a.l v=2:=oM
 ·obtain⟨x,j⟩:=Mg n;refine⟨λe=>?_,λh=>oM⟩;have:=R x k;rw[e,dJ]at this;exact absurd this.symm (CB j _)
 ·constructor
  ·intro e;refine Classical.byContradiction λG=>?_;obtain⟨S,T,d,e1,d0,X⟩:=Mf (v:=v) b0 hg oM;obtain⟨x,j⟩:=Mg (mul_ne n d0);rw[MP.ev_mul]at j;obtain⟨c,hc,hr⟩:=root x (λh=>j (by rw[h];grind)) k;have m:=z x c k hc;rw[e,dJ]at m
   have D:b.ev (x.put v c)=0:=by
    rcases Rat.mul_eq_zero.1 m.symm with h|h
    ·exact absurd h (CB (λh=>j (by rw[h];grind)) _)
    ·exact h
   have y:=congrArg (MP.ev (x.put v c)) e1;rw[MP.ev_add,MP.ev_mul,MP.ev_mul,hr,D,Vk x c X]at y;exact j (by rw[<-y];grind)
  ·intro G;refine Classical.byContradiction λe=>?_;obtain⟨p,C⟩:=hg.i.l;obtain⟨q,eq⟩:=hg.i.r;have I:p≠0:=λh=>a0 (by rw[C,h];grind);have s0:(⟨qV a.l b.l v,vs⟩:MP)≠0:=λh=>e (zero_iff.1 h);obtain⟨x,j⟩:=Mg (mul_ne n (mul_ne I s0));rw[MP.ev_mul,MP.ev_mul,hz]at j;obtain⟨c,hc,hr⟩:=root x (λh=>j (by rw[h];grind)) k;have m:=z x c k hc
   have W:p.deg v<=0:=by have:=deg_mul g0 I v;rw[<-C]at this;omega
   have y:=Vk x c W;have H:=congrArg (MP.ev (x.put v c)) C;rw[hr,MP.ev_mul,y]at H;have h4:=congrArg (MP.ev (x.put v c)) eq;rw[MP.ev_mul]at h4;rw[h4]at m;rcases Rat.mul_eq_zero.1 H.symm with h|h
   ·rw[h]at m;exact j (by rw[m];grind)
   ·exact j (by rw[h];grind)
 ·constructor
  ·intro e;refine Classical.byContradiction λG=>?_;obtain⟨S,T,d,e1,d0,X⟩:=Mf (v:=v) b0 hg oM;obtain⟨x,j⟩:=Mg (mul_ne n d0);rw[MP.ev_mul]at j;obtain⟨c1,c0,F,E,M,O⟩:=roots x (λh=>j (by rw[h];grind)) k;have m:=B x c1 c0 k F E;rw[e,dJ]at m
   have D:pF c1 c0 (mr x v c1 c0 b.l) (tC x v c1 c0 b.l)=0:=by
    rcases Rat.mul_eq_zero.1 m.symm with h|h
    ·exact absurd h (CB (λh=>j (by rw[h];grind)) _)
    ·exact h
   obtain⟨f1,f2⟩:=zaj x c1 c0 X
   have t1:mr x v c1 c0 (T*b).l=0:=by have y:mr x v c1 c0 (S*a+T*b).l=mr x v c1 c0 (S*a).l+mr x v c1 c0 (T*b).l:=lf_add _ _ _;have H:mr x v c1 c0 (S*a).l=_:=Cx x v c1 c0 S.v.nat a.v.nat;rw[e1,f1,H,M,O]at y;grind
   have t2:tC x v c1 c0 (T*b).l=d.ev x:=by have y:tC x v c1 c0 (S*a+T*b).l=tC x v c1 c0 (S*a).l+tC x v c1 c0 (T*b).l:=lf_add _ _ _;have H:tC x v c1 c0 (S*a).l=_:=Cy x v c1 c0 S.v.nat a.v.nat;rw[e1,f2,H,M,O]at y;grind
   have hN:pF c1 c0 (mr x v c1 c0 (T*b).l) (tC x v c1 c0 (T*b).l)=_:=UX x v c1 c0 T.v.nat b.v.nat;rw[D,t1,t2]at hN;have h5:d.ev x*d.ev x=0:=by unfold pF at hN;grind
   have h6:d.ev x=0:=by rcases Rat.mul_eq_zero.1 h5 with h|h<;>exact h
   exact j (by rw[h6];grind)
  ·intro G;refine Classical.byContradiction λe=>?_;obtain⟨p,C⟩:=hg.i.l;obtain⟨q,eq⟩:=hg.i.r;have I:p≠0:=λh=>a0 (by rw[C,h];grind);have s0:(⟨qV a.l b.l v,vs⟩:MP)≠0:=λh=>e (zero_iff.1 h);obtain⟨x,j⟩:=Mg (mul_ne n (mul_ne (lc_ne I v) s0));rw[MP.ev_mul,MP.ev_mul,hz]at j;obtain⟨c1,c0,F,E,M,O⟩:=roots x (λh=>j (by rw[h];grind)) k;have m:=B x c1 c0 k F E
   have W:p.deg v<2:=by have:=deg_mul g0 I v;rw[<-C]at this;omega
   have Y:pF c1 c0 (mr x v c1 c0 b.l) (tC x v c1 c0 b.l)≠0:=λh=>by rw[h]at m;exact j (by rw[m];grind)
   have J:p*b=a*q:=by rw[eq,C];grind
   have m1:mr x v c1 c0 (p*b).l=_:=Cx x v c1 c0 p.v.nat b.v.nat;have m2:tC x v c1 c0 (p*b).l=_:=Cy x v c1 c0 p.v.nat b.v.nat;have n1:mr x v c1 c0 (a*q).l=_:=Cx x v c1 c0 a.v.nat q.v.nat;have n2:tC x v c1 c0 (a*q).l=_:=Cy x v c1 c0 a.v.nat q.v.nat;rw[J,n1,M,O]at m1;rw[J,n2,M,O]at m2;obtain⟨z1,z2⟩:=Y5 (p1:=mr x v c1 c0 p.l) (p2:=tC x v c1 c0 p.l) gR gR Y
   have w1:mr x v c1 c0 p.l=(p.co v 1).ev x:=by show Lf _ _=_;rw[BI x v (λi=>(gq c1 c0 i).1) p (N:=2) W,bF,bF,bF];simp only[gq];grind
   have w2:tC x v c1 c0 p.l=(p.co v 0).ev x:=by show Lf _ _=_;rw[BI x v (λi=>(gq c1 c0 i).2) p (N:=2) W,bF,bF,bF];simp only[gq];grind
   have hp:=deg_pos I v
   have hl:(p.lc v).ev x=0:=by
    unfold MP.lc;obtain h|h:(p.deg v).toNat=0\/(p.deg v).toNat=1:=oM
    ·rw[h,<-w2,z2]
    ·rw[h,<-w1,z1]
   exact j (by rw[hl];grind)
end Q
end
