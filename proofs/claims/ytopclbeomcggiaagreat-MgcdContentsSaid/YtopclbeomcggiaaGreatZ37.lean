/- MgcdContents: the plain law. No program in sight. -/
import Derived.Test.YtopclbeomcggiaaGreatZ36
set_option linter.unusedVariables false
set_option linter.unusedSimpArgs false
set_option maxHeartbeats 16000000
set_option maxRecDepth 100000
section
namespace Q
open MP Go.Proofs.YtopclbeomcggiaaGreat
def VB (v:Nat) (e:Ex):Ex:=(e.put v (e.get 3)).put 3 (e.get v)
def swX (v:Nat) (x:Pt):Pt:=(x.put v (x.get 3)).put 3 (x.get v)
theorem PX{v:Nat}(hv:v<4)(e:Ex):(VB v e).get 3=e.get v/\(VB v e).get v=e.get 3:=by
 obtain rfl|rfl|rfl|rfl:v=0\/v=1\/v=2\/v=3:=oM
 all_goals exact⟨rfl,rfl⟩
theorem WX{v:Nat}{e:Ex}(h:e.nat=true):(VB v e).nat=true:=Ex.put_nat (Ex.put_nat h v (Ex.nat_get h 3)) 3 (Ex.nat_get h v)
theorem WY{v:Nat}(hv:v<4)(x:Pt):swX v (swX v x)=x:=by
 obtain rfl|rfl|rfl|rfl:v=0\/v=1\/v=2\/v=3:=oM
 all_goals rfl
theorem Y0{v:Nat}(hv:v<4)(x:Pt)(e:Ex):lw x (VB v e)=lw (swX v x) e:=by
 obtain rfl|rfl|rfl|rfl:v=0\/v=1\/v=2\/v=3:=oM
 all_goals first|rfl|(simp only[lw,VB,swX,Ex.put,Ex.get,Pt.put,Pt.get];grind)
def sw (v:Nat) (p:MP):MP:=⟨canon (p.l.map λt=>(VB v t.1,t.2)),fK _⟩
theorem G6{v:Nat}(hv:v<4)(x:Pt)(p:MP):(sw v p).ev x=p.ev (swX v x):=by
 show Q.ev x (canon _)=Q.ev _ p.l
 rw[mO λt d=>by
  obtain⟨s,b,rfl⟩:=List.mem_map.1 d
  exact WX (p.v.2 s b).2]
 unfold Q.ev;exact wZ _ _ _ p.l λt _=>by rw[Y0 hv]
theorem L9{v:Nat}(hv:v<4)(p:MP):sw v (sw v p)=p:=MP.ext' λx=>by rw[G6 hv,G6 hv,WY hv]
theorem Oh{v:Nat}(hv:v<4)(p q:MP):sw v (p*q)=sw v p*sw v q:=MP.ext' λx=>by rw[G6 hv,MP.ev_mul,MP.ev_mul,G6 hv,G6 hv]
theorem Oi{v:Nat}(hv:v<4){p q:MP}(h:p∣q):sw v p∣sw v q:=by obtain⟨k,rfl⟩:=h;exact⟨sw v k,Oh hv p k⟩
theorem WZ{v:Nat}(hv:v<4):sw v 0=0:=MP.ext' λx=>by rw[G6 hv,MP.ev_zero,MP.ev_zero]
theorem XH{v:Nat}(hv:v<4){p:MP}(h:p≠0):sw v p≠0:=λe=>h (by rw[<-L9 hv p,e,WZ hv])
theorem XI{v u u':Nat}{p:MP}(h:p.fr u)(hg:∀e:Ex,(VB v e).get u'=e.get u):(sw v p).fr u':=Si (gY (P:=λe=>e.get u'=0) λt d=>by
 obtain⟨s,b,rfl⟩:=List.mem_map.1 d;show(VB v s.1).get u'=0
 rw[hg];exact fr_get h b)
theorem Jg{v u u':Nat}(hv:v<4)(hg:∀e:Ex,(VB v e).get u'=e.get u)(i:∀e:Ex,(VB v e).get u=e.get u'){g a:MP}(h:mX u g a):mX u' (sw v g) (sw v a):=by refine⟨XI h.f hg,Oi hv h.d,λd hd b=>?_⟩;have j:=h.u (sw v d) (XI hd i) (by have:=Oi hv b;rwa[L9 hv]at this);have k:=Oi hv j;rwa[L9 hv]at k
theorem Rt{a b g h:MP}(a0:a≠0)(b0:b≠0)(hg:mX 3 g a)(j:mX 3 h b):mX 3 (g*h) (a*b):=by
 have k:=zY 3 oM;obtain⟨p,l,m,o⟩:=jE hg a0;obtain⟨q,eq,n,r⟩:=jE j b0;have e:a*b=(g*h)*(p*q):=by rw[l,eq];grind
 refine⟨rQ hg.f j.f,by rw[e];exact dvd_mul_right _ _,λd hd i=>?_⟩;exact Il k oM (JR k oM (Y7 p) (Y7 q) m n) (by rw[<-e];exact Y7 _) (rQ hg.f j.f) hd (by rw[<-e];exact i)
theorem UU{v:Nat}(hv:v<4){a b g h:MP}(a0:a≠0)(b0:b≠0)(hg:mX v g a)(d:mX v h b):mX v (g*h) (a*b):=by have e1:=λe:Ex=>(PX hv e).1;have e2:=λe:Ex=>(PX hv e).2;have:=Jg hv e2 e1 (Rt (XH hv a0) (XH hv b0) (Jg hv e1 e2 hg) (Jg hv e1 e2 d));rwa[<-Oh hv,<-Oh hv,L9 hv,L9 hv]at this
theorem NC.eqq{v:Nat}{g h a:MP}(hg:NC v g a)(i:NC v h a):g=h:=by
 have j:=i.1.u g hg.1.f hg.1.d;have k:=hg.1.u h i.1.f i.1.d;by_cases b:g=0
 ·rw[b]at j ⊢;exact(zero_dvd j).symm
 ·have l:h≠0:=λe=>b (by rw[e]at k;exact zero_dvd k);exact EM b j k (hg.2 b) (i.2 l)
theorem NC.primm{v:Nat}{g a p k:MP}(hg:NC v g a)(j:a≠0)(e:a=g*p)(h:NC v k p):k=1:=by obtain⟨q,e2,hq,b⟩:=jE hg.1 j;have i:p=q:=cancel b (by rw[<-e,<-e2]);have hu:k.unit:=hq k h.1.f (i▸h.1.d);exact EM (tY hu) hu (unit_dvd unit_one k) (h.2 (tY hu)) Az
def Rw8 (H:Nat) (l:List ai):Prop:=∃f:MP,f.l=l/\Dg D8 f/\In 90 f/\(f=0\/∃F:MP,F≠0/\f∣F/\Dq H F)
theorem Ma{H:Nat}(o:H<=225):∀(l:List (List ai))(b:MP),(∀c∈l,Rw8 H c)->(b=0\/(hd b=1/\∃F:MP,F≠0/\b∣F/\Dq H F))->∃r,vF (uG 6) b.l l=some r
 | [],b,_,_=>⟨_,rfl⟩
 | c::l,b,hl,ha=>by
  obtain⟨f,rfl,p,hf,s⟩:=hl c sM
  have d:Dg D8 b/\In 90 b:=by
   rcases ha with e|⟨q,F,h,j,k⟩
   ·rw[e];exact zx
   ·exact PW k o h j q
  obtain⟨g,x,hg⟩:=Je d.1 p d.2 hf;rw[vF,x];simp only;split
  ·exact⟨_,rfl⟩
  ·refine Ma o l g (λc hc=>hl c (by simp[hc])) ?_;by_cases m:g=0
   ·exact .inl m
   ·refine .inr ⟨hg.n m,?_⟩;rcases s with f0|⟨F,h,j,k⟩
    ·rcases ha with e|⟨-,F,h,j,k⟩
     ·exact absurd (zero_dvd (hg.i.u 0 (by rw[e];exact dvd_refl 0) (by rw[f0];exact dvd_refl 0))) m
     ·exact⟨F,h,dvd_trans hg.i.l j,k⟩
    ·exact⟨F,h,dvd_trans hg.i.r j,k⟩
theorem XJ{d:Nat->Nat}{p:MP}(h:Dg d p){v:Nat}(hv:v<4)(n:Nat):Dg d (p.co v n):=λw b=>wm v n p b hv (h w b)
theorem Dq.co{H:Nat}{p:MP}(h:Dq H p){v:Nat}(hv:v<4)(n:Nat):Dq H (p.co v n):=⟨XJ h.d hv n,h.i.co v n⟩
theorem PY{H:Nat}(d:H<=225){a:MP}{v:Nat}(b:∀n,Rw8 H (a.co v n).l):∃g:MP,lI (uG 6) a.l v=some g.l/\NC v g a:=by
 obtain⟨r,b⟩:=Ma d (aB a.l v) 0 (λc hc=>by
  obtain⟨n,e⟩:=gQ hc
  rw[e];exact b n) (.inl rfl)
 obtain⟨g,rfl,hg,h⟩:=qQ (zu 6) (a:=a) (v:=v) b;exact⟨g,b,hg,h⟩
theorem Dq.rw{H:Nat}(e:H<=225){a:MP}(h:Dq H a){v:Nat}(hv:v<4)(n:Nat):Rw8 H (a.co v n).l:=by
 refine⟨a.co v n,rfl,(h.co hv n).d,(h.co hv n).in90 e,?_⟩;by_cases b:a.co v n=0
 ·exact .inl b
 ·exact .inr ⟨_,b,dvd_refl _,h.co hv n⟩
theorem Ct{v:Nat}{g:MP}(h:NC v g 0):g=0:=zero_dvd (h.1.u 0 (rz v) (dvd_refl 0))
theorem XK{v:Nat}(hv:v<4){a g:MP}(ha:Dq 15 a)(h:NC v g a):(Dg D8 g/\In 90 g)/\∃z,0<z/\z<=15/\Pk (mM z) g.l:=by
 by_cases a0:a=0
 ·rw[a0]at h;rw[Ct h];exact⟨zx,1,oM,oM,uy⟩
 ·have b:=dvd_ne a0 h.1.d;have e:=(dvd_iff_co h.1.f a).1 h.1.d (a.deg v).toNat;exact⟨PW (ha.co hv _) oM (lc_ne a0 v) e (h.2 b),PV (ha.co hv _) oM (lc_ne a0 v) e (h.2 b)⟩
theorem Mc{a b:MP}(ha:Dm a)(hb:Dm b){v:Nat}(hv:v<4):∃g h p:MP,∃u x:Nat,lI (uG 6) a.l v=some g.l/\lI (uG 6) b.l v=some h.l/\lJ (uG 6) a.l v=some p.l/\Wp a.l/\Wp b.l /\
  0<u/\u<=15/\Pk (mM u) g.l/\0<x/\x<=15/\Pk (mM x) h.l/\Pk (mM 1) p.l/\(a=0->g=0/\p=0) /\
  (a≠0->a=g*p/\g.deg v=0/\Wp p.l/\lI (uG 6) p.l v=some (1:MP).l/\Wp (a*b).l/\lI (uG 6) (a*b).l v=some (g*h).l):=by
 have e:=ha.dq;have B:=hb.dq;have m:=ha.mul hb;obtain⟨g,e1,hg⟩:=PY (a:=a) (v:=v) oM λn=>e.rw oM hv n;obtain⟨h,e2,s⟩:=PY (a:=b) (v:=v) oM λn=>B.rw oM hv n;obtain⟨k,J,E⟩:=PY (a:=a*b) (v:=v) (nL 225) λn=>m.rw (nL 225) hv n;obtain⟨⟨dg,Y⟩,u,g1,M,N⟩:=XK hv e hg;obtain⟨-,x,O,R,S⟩:=XK hv B s;have wa:=VA e.d (e.in90 oM);have wb:=VA B.d (B.in90 oM);by_cases a0:a=0
 ·have D:g=0:=by rw[a0]at hg;exact Ct hg
  refine⟨g,h,0,u,x,e1,e2,by rw[a0];rfl,wa,wb,g1,M,N,O,R,S,uy,λ_=>⟨D,rfl⟩,λh=>absurd a0 h⟩
 ·have q:=dvd_ne a0 hg.1.d;obtain⟨p,o,pp,-⟩:=jE hg.1 a0;obtain⟨z,z1,Z,-,ip⟩:=AB e a0 o (hg.2 q);have hz:=Nat.mul_le_mul_right (2^72*15) Z;have C:Dg D8 p:=e.d.dvd a0 ⟨g,o.trans (gX g p)⟩;have j:In 90 p:=⟨1,_,oM,Nat.one_le_two_pow,Nat.le_trans hz dK,ip⟩;have y:=zq q (o.trans (gX g p)) e.d (by rw[bx8];omega) j Y (by rw[Bi];omega)
  obtain⟨r,K,X⟩:=PY (a:=p) (v:=v) (H:=15) oM λn=>by
   refine⟨p.co v n,rfl,XJ C hv n,j.co v n,?_⟩;by_cases i:p.co v n=0
   ·exact .inl i
   ·have L:a.co v n=g*p.co v n:=by rw[o,co_mul_fr hg.1.f]
    exact .inr ⟨a.co v n,by rw[L];exact mul_ne q i,by rw[L];exact dvd_mul_left _ _,e.co hv n⟩
  have I:=hg.primm a0 o X;rw[I]at K
  have G:lJ (uG 6) a.l v=some p.l:=by obtain⟨t,l,el⟩:=jR a0;rw[el]at y e1 ⊢;rw[lJ];simp only[e1];exact y
  have F:k=g*h:=by
   by_cases b0:b=0
   ·have i:h=0:=by rw[b0]at s;exact Ct s
    have W:a*b=0:=by rw[b0];grind
    rw[W]at E;rw[Ct E,i];grind
   ·have i:=dvd_ne b0 s.1.d;exact E.eqq ⟨UU hv a0 b0 hg.1 s.1,λ_=>by rw[EO q i,hg.2 q,s.2 i];exact Rat.mul_one 1⟩
  rw[F]at J
  exact⟨g,h,p,u,x,e1,e2,G,wa,wb,g1,M,N,O,R,S,⟨p.v,AC ip oM C (Nat.le_trans hz dK),xS oM oM⟩,λh=>absurd h a0,
   λ_=>⟨o,uV hg.1.f q,VA C j,K,VA m.d (m.in90 oM),J⟩⟩
end Q
end
section
namespace Q
open Go Go.Proofs.YtopclbeomcggiaaGreat
structure Cu (N:Nat) (M:Mx) (F:Nat->Nat->List ai):Prop where
 len:M.length=N
 rows:∀r∈M,r.length=N
 el:∀i j,i<N->j<N->iT M i j=F i j
theorem Ru{N:Nat}{M:Mx}(s:M.length=N)(n:∀r∈M,r.length=N){i j:Nat}(p:i<N)(q:j<N)(x:List ai)(b d:Nat):iT (yS M i j x) b d=if b=i/\d=j then x else iT M b d:=by
 have m:M.getD i []=M[i]'(oM):=by rw[jD,gE oM];rfl
 have o:(M[i]'(oM)).length=N:=n _ (List.getElem_mem _);unfold iT yS;by_cases e:b=i
 ·subst e;rw[jD (l:=M.set b _),List.getElem?_set,if_pos rfl,if_pos oM,Option.getD_some,m,jD,List.getElem?_set];by_cases k:j=d
  ·subst k;rw[if_pos rfl,if_pos oM,if_pos ⟨rfl,rfl⟩];rfl
  ·rw[if_neg k,if_neg (λh=>k h.2.symm),<-jD]
 ·rw[if_neg (λh=>e h.1),jD (l:=M.set i _),List.getElem?_set,if_neg (λh=>e h.symm),<-jD]
theorem Cu.set{N:Nat}{M:Mx}{F:Nat->Nat->List ai}(h:Cu N M F){i j:Nat}(e:i<N)(o:j<N)(x:List ai):Cu N (yS M i j x) (λb d=>if b=i/\d=j then x else F b d):=by
 have n:M.getD i []=M[i]'(by rw[h.len];exact e):=by rw[jD,gE (by rw[h.len];exact e)];rfl
 refine⟨by rw[yS,List.length_set];exact h.len,λr k=>?_,λb d l m=>?_⟩
 ·rcases List.mem_or_eq_of_mem_set k with k|rfl
  ·exact h.rows r k
  ·rw[List.length_set,n];exact h.rows _ (List.getElem_mem _)
 ·rw[Ru h.len h.rows e o];split
  ·rfl
  ·exact h.el b d l m
theorem Cu.congr{N:Nat}{M:Mx}{F G:Nat->Nat->List ai}(h:Cu N M F)(e:∀i j,i<N->j<N->F i j=G i j):Cu N M G :=
 ⟨h.len,h.rows,λi j b d=>(h.el i j b d).trans (e i j b d)⟩
theorem PZ{N k i:Nat}{last:List ai}{X:Nat->List ai}(z:k<i)(m:i<N):∀(f:Nat){M:Mx}{F:Nat->Nat->List ai},Cu N M F->k+f<N ->
  (∀j,N-f<=j->j<N->fQ (dL (aO (F k k) (F i j)) (aO (F i k) (F k j))) last=some (X j)) ->
  ∃e,Za N k i last f M=some e/\Cu N e (λd b=>if d=i/\N-f<=b then X b else F d b)
 | 0,M,F,h,_,_=>⟨M,rfl,h.congr λd b p q=>by rw[if_neg (by omega)]⟩
 | f+1,M,F,h,hf,hx=>by
  have n:N-(f+1)<N:=oM;have p:=hx (N-(f+1)) (nL _) n;have q:=h.set m n (X (N-(f+1)))
  obtain⟨e,u,x⟩:=PZ z m f q oM (λj y r=>by
   simp only;rw[if_neg oM,if_neg oM,if_neg oM,if_neg oM]
   exact hx j oM r)
  refine⟨e,?_,x.congr λd b y r=>?_⟩
  ·rw[Za,h.el k k oM oM,h.el i _ m n,h.el i k m oM,h.el k _ oM n,p];exact u
  ·by_cases l:d=i
   ·subst l;by_cases s:N-f<=b
    ·rw[if_pos ⟨rfl,s⟩,if_pos ⟨rfl,oM⟩]
    ·rw[if_neg (λh=>s h.2)];by_cases o:b=N-(f+1)
     ·rw[if_pos ⟨rfl,o⟩,if_pos ⟨rfl,oM⟩,o]
     ·rw[if_neg (λh=>o h.2),if_neg oM]
   ·rw[if_neg (λh=>l h.1),if_neg (λh=>l h.1),if_neg (λh=>l h.1)]
theorem Jh{N k:Nat}{last:List ai}{X:Nat->Nat->List ai}(o:k<N):∀(f:Nat){M:Mx}{F:Nat->Nat->List ai},Cu N M F->k+f<N ->
  (∀i j,N-f<=i->i<N->k<j->j<N->fQ (dL (aO (F k k) (F i j)) (aO (F i k) (F k j))) last=some (X i j)) ->
  ∃m,Zb N k last f M=some m/\Cu N m (λb d=>if N-f<=b/\k<d then X b d else F b d)
 | 0,M,F,h,_,_=>⟨M,rfl,h.congr λb d p q=>by rw[if_neg (by omega)]⟩
 | f+1,M,F,h,hf,hx=>by
  have u:N - (f+1)<N:=oM;obtain⟨y,p,q⟩:=PZ (X:=X (N - (f+1))) (k:=k) (last:=last) oM u (N - (k+1)) h oM (λj r n=>hx _ j (nL _) u oM n)
  obtain⟨m,r,n⟩:=Jh o f q oM (λi j x s e l=>by
   rw[if_neg oM,if_neg oM,if_neg oM,if_neg oM]
   exact hx i j oM s e l)
  refine⟨m,?_,n.congr λb d x s=>?_⟩
  ·rw[Zb,p];exact r
  ·by_cases e:N-f<=b/\k<d
   ·rw[if_pos e,if_pos ⟨oM,e.2⟩]
   ·rw[if_neg e];by_cases l:b=N-(f+1)/\N-(N-(k+1))<=d
    ·rw[if_pos l,if_pos ⟨oM,oM⟩,l.1]
    ·rw[if_neg l,if_neg oM]
theorem xU{N f k:Nat}{M:Mx}{F:Nat->Nat->List ai}{last:List ai}{neg:Bool}(h:Cu N M F)(u:k+(f+1)=N)(hp:F k k≠[]){X:Nat->Nat->List ai}
  (s:∀i j,k<i->i<N->k<j->j<N->fQ (dL (aO (F k k) (F i j)) (aO (F i k) (F k j))) last=some (X i j)) :
  ∃b,Cu N b (λi j=>if k<i/\k<j then X i j else F i j)/\resS N (f+1) M last neg=if f=0 then some (Q8 (F k k) neg)else resS N f b (F k k) neg:=by
 have l:N-(f+1)=k:=oM;have m:uB N k M (f+1)=some k:=by rw[uB,l,if_neg (by rw[h.el k k oM oM];exact hp)]
 obtain⟨b,o,p⟩:=Jh (k:=k) (last:=last) (X:=X) oM f h oM (λi j q n e r=>s i j oM n e r)
 have d:=p.congr (G:=λi j=>if k<i/\k<j then X i j else F i j) λi j q n=>by
  by_cases e:k<i/\k<j
  ·rw[if_pos e,if_pos ⟨oM,e.2⟩]
  ·rw[if_neg e,if_neg oM]
 refine⟨b,d,?_⟩;rw[resS,l,m];simp only[if_true];split
 ·rw[h.el k k oM oM]
 ·rw[o];show resS N f b (iT b k k) neg=_;rw[d.el k k oM oM];simp
theorem EX{N k:Nat}{M:Mx}{F:Nat->Nat->List ai}(h:Cu N M F)(b:k<N):∀(f:Nat),f<=N->(∀i,N-f<=i->i<N->F i k=[])->uB N k M f=none
 | 0,_,_=>rfl
 | f+1,hf,hz=>by rw[uB,h.el _ k (by omega) b,if_pos (hz _ (nL _) (by omega))];exact EX h b f (by omega) λi e d=>hz i (by omega) d
theorem G7{N f k:Nat}{M:Mx}{F:Nat->Nat->List ai}{last:List ai}{neg:Bool}(h:Cu N M F)(j:k+(f+1)=N)(hz:∀i,k<=i->i<N->F i k=[]):resS N (f+1) M last neg=some []:=by have b:N-(f+1)=k:=oM;rw[resS,b,EX h oM (f+1) oM λi e d=>hz i oM d]
theorem AJ{N k:Nat}{M:Mx}{F:Nat->Nat->List ai}{last:List ai}{neg:Bool}(h:Cu N M F)(e:k+1=N):resS N 1 M last neg=some (if F k k=[]then []else Q8 (F k k) neg):=by
 by_cases b:F k k=[]
 ·rw[if_pos b];exact G7 h e λi l d=>by rw[(oM:i=k)];exact b
 ·rw[if_neg b];obtain⟨m,-,d⟩:=xU (neg:=neg) (last:=last) (X:=λ_ _=>[]) h e b (λi j l d=>oM);rw[d,if_pos rfl]
theorem EY{N k:Nat}{M:Mx}{F:Nat->Nat->List ai}{last x:List ai}{neg:Bool}(h:Cu N M F)(b:k+1=N)(d:F k k=x):resS N 1 M last neg=some (if x=[]then []else Q8 x neg):=by rw[AJ h b,d]
theorem wL{α:Type}(l:List α)(i j:Nat)(x d:α)(e:i<l.length):(l.set i x).getD j d=if j=i then x else l.getD j d:=by
 rw[jD,List.getElem?_set,jD];by_cases h:i=j
 ·subst h;rw[if_pos rfl,if_pos e,if_pos rfl];rfl
 ·rw[if_neg h,if_neg (λb=>h b.symm)]
theorem Cu.swap{N:Nat}{M:Mx}{F:Nat->Nat->List ai}(h:Cu N M F){i j:Nat}(m:i<N)(n:j<N):Cu N (rE M i j) (λe b=>if e=j then F i b else if e=i then F j b else F e b):=by
 have hm:∀k,k<N->M.getD k []∈M:=λk p=>by rw[jD,gE (by rw[h.len];exact p)];exact List.getElem_mem _
 refine⟨by rw[rE,List.length_set,List.length_set];exact h.len,λr d=>?_,λe b o l=>?_⟩
 ·rcases List.mem_or_eq_of_mem_set d with d|rfl
  ·rcases List.mem_or_eq_of_mem_set d with d|rfl
   ·exact h.rows r d
   ·exact h.rows _ (hm j n)
  ·exact h.rows _ (hm i m)
 ·unfold iT rE;rw[wL _ _ _ _ _ (by rw[List.length_set,h.len];exact n),wL _ _ _ _ _ (by rw[h.len];exact m)];split
  ·exact h.el i b m l
  ·split
   ·exact h.el j b n l
   ·exact h.el e b o l
theorem Rv{N k:Nat}{M:Mx}{F:Nat->Nat->List ai}{last x:List ai}{neg:Bool}(h:Cu N M F)(z:k+2=N)(m:F k k=[])(hp:F (k+1) k≠[])
  (q:fQ (dL (aO (F (k+1) k) (F k (k+1))) (aO (F k k) (F (k+1) (k+1)))) last=some x):resS N 2 M last neg=some (if x=[]then []else Q8 x (!neg)):=by
 have b:N-2=k:=oM;have d:N-1=k+1:=oM
 have e:uB N k M 2=some (k+1):=by rw[uB,b,if_pos (by rw[h.el k k oM oM];exact m),uB,d,if_neg (by rw[h.el (k+1) k oM oM];exact hp)]
 have p:=h.swap (i:=k) (j:=k+1) oM oM
 obtain⟨l,n,o⟩:=Jh (k:=k) (last:=last) (X:=λ_ _=>x) oM 1 p oM (λi j r s u y=>by
  obtain rfl:i=k+1:=oM;obtain rfl:j=k+1:=oM;rw[if_neg oM,if_pos rfl,if_pos rfl,if_pos rfl,if_neg oM,if_pos rfl]
  exact q)
 rw[resS,b,e];simp only;rw[if_neg oM,if_neg oM,if_neg oM,n];show resS N 1 l _ _=_;exact EY o (k:=k+1) oM (if_pos ⟨oM,oM⟩)
theorem G9{d:List ai}(h:aY d):dL [] (dL [] d)=d :=
 lK (aY.sub _ _) h λy=>by rw[ev_sub y aY.nil.nat (aY.sub _ _),ev_sub y aY.nil.nat h,dJ];grind
theorem Oj{N k:Nat}{M:Mx}{F:Nat->Nat->List ai}{last d:List ai}(h:Cu N M F)(l:k+2=N)(hd:aY d)
  (p:fQ (dL (aO (F k k) (F (k+1) (k+1))) (aO (F (k+1) k) (F k (k+1)))) last=some d)
  (q:fQ (dL (aO (F (k+1) k) (F k (k+1))) (aO (F k k) (F (k+1) (k+1)))) last=some (dL [] d))
  (r:F k k=[]->F (k+1) k=[]->d=[]):resS N 2 M last false=some d:=by
 by_cases b:F k k=[]
 ·by_cases m:F (k+1) k=[]
  ·rw[r b m]
   exact G7 (f:=1) h l λi n o=>by
    obtain rfl|rfl:i=k\/i=k+1:=oM
    ·exact b
    ·exact m
  ·rw[Rv h l b m q];by_cases e:dL [] d=[]
   ·rw[if_pos e,<-G9 hd,e];rfl
   ·rw[if_neg e];show some (dL [] (dL [] d))=_;rw[G9 hd]
 ·obtain⟨s,n,o⟩:=xU (f:=1) (neg:=false) (last:=last) (X:=λ_ _=>d) h l b (λi j u y z B=>by
   obtain rfl:i=k+1:=oM;obtain rfl:j=k+1:=oM
   exact p)
  refine o.trans ?_;rw[if_neg oM,EY n (k:=k+1) (x:=d) oM (if_pos ⟨oM,oM⟩)];by_cases e:d=[]
  ·rw[if_pos e,e]
  ·rw[if_neg e];rfl
structure En (u B E:Nat) (p:List ai):Prop where
 v:aY p
 d:∀t∈p,Dv 1 t.2
 b:bL p<=(B:Rat)
 e:∀t∈p,t.1.get u<=E
 o:∀t∈p,∀x,x<4->x≠u->t.1.get x=0
theorem Rw{e f:Ex}(h:∀x,x<4->e.get x=f.get x):e=f:=Ex.ext' (h 0 oM) (h 1 oM) (h 2 oM) (h 3 oM)
theorem En.len{u B E:Nat}{p:List ai}(h:En u B E p)(hu:u<4):p.length<=E+1:=by
 have l:(p.map λt=>(t.1.get u).toNat).Nodup:=by
  rw[List.nodup_iff_pairwise_ne,List.pairwise_map];refine List.Pairwise.imp_of_mem ?_ h.v.1;intro s t k d j he;refine absurd (Rw λx i=>?_) (Ex.gt_ne j);by_cases b:x=u
  ·subst b;have a1:=Ex.nat_get (h.v.nat s k) x;have a2:=Ex.nat_get (h.v.nat t d) x;omega
  ·rw[h.o s k x i b,h.o t d x i b]
 have m:=zo (E+1) _ l λx i=>by obtain⟨t,d,rfl⟩:=List.mem_map.1 i;have:=h.e t d;omega
 simpa using m
theorem En.bd{u B E:Nat}{p:List ai}(h:En u B E p)(hu:u<4):Bd ⟨1,B,E,E+1⟩ p:=by
 refine⟨h.len hu,λt j=>?_,h.d,h.b⟩
 have g:∀x,x<4->0<=t.1.get x/\t.1.get x<=E:=λx n=>by
  refine⟨Ex.nat_get (h.v.nat t j) x,?_⟩;by_cases i:x=u
  ·subst i;exact h.e t j
  ·rw[h.o t j x n i];omega
 have k:=g 0 oM;have g1:=g 1 oM;have l:=g 2 oM;have m:=g 3 oM;simp only[Ex.get]at k g1 l m;dsimp only;omega
theorem En.nil(u B E:Nat):En u B E []:=⟨aY.nil,λ_ h=>(by cases h),by simp only[bL];exact Rat.natCast_nonneg,λ_ h=>(by cases h),λ_ h=>(by cases h)⟩
theorem En.mono{u B E B' E':Nat}{p:List ai}(h:En u B E p)(i:B<=B')(k:E<=E'):En u B' E' p :=
 ⟨h.v,h.d,Rat.le_trans h.b (Rat.natCast_le_natCast.2 i),λt j=>by have:=h.e t j;omega,h.o⟩
theorem get_add(e f:Ex)(x:Nat):(e.add f).get x=e.get x+f.get x:=by rcases x with _|_|_|x<;>rfl
theorem En.mul{u B E B' E':Nat}{p q:List ai}(h:En u B E p)(k:En u B' E' q)(hu:u<4):En u (B*B') (E+E') (aO p q):=by
 have hb:=((h.bd hu).prods (k.bd hu)).canon;refine⟨aY.mul _ _,hb.d,hb.b,?_,?_⟩
 ·exact gY (P:=λe=>e.get u<=((E+E':Nat):Int)) λt l=>by obtain⟨a,ha,b,i,rfl⟩:=kV l;show(a.1.add b.1).get u<=_;rw[get_add];have:=h.e a ha;have:=k.e b i;omega
 ·exact gY (P:=λe=>∀x,x<4->x≠u->e.get x=0) λt l x m j=>by obtain⟨a,ha,b,i,rfl⟩:=kV l;show(a.1.add b.1).get x=0;rw[get_add,h.o a ha x m j,k.o b i x m j];rfl
theorem En.neg{u B E:Nat}{p:List ai}(h:En u B E p):En u B E (bY p (-1)):=by
 have e:bY p (-1)=p.map λt=>(t.1,t.2*-1):=by unfold bY;rw[if_neg dK]
 refine⟨h.v.scale _,?_,?_,?_,?_⟩
 ·intro t i;rw[e]at i;obtain⟨s,j,rfl⟩:=List.mem_map.1 i;show Dv 1 (s.2*-1);have:=(h.d s j).neg;rwa[(gR:s.2*-1=-s.2)]
 ·have k:∀l:List ai,bL (l.map λt=>(t.1,t.2*-1))=bL l:=λl=>by
   induction l with
   | nil=>rfl
   | cons t l m =>
    simp only[List.map_cons,bL,m];rw[(gR:t.2*-1=-t.2),CJ]
  rw[e,k];exact h.b
 ·intro t i;rw[e]at i;obtain⟨s,j,rfl⟩:=List.mem_map.1 i;exact h.e s j
 ·intro t i;rw[e]at i;obtain⟨s,j,rfl⟩:=List.mem_map.1 i;exact h.o s j
theorem En.add{u B E B' E':Nat}{p q:List ai}(h:En u B E p)(j:En u B' E' q)(hu:u<4):En u (B+B') (max E E') (mP p q):=by
 have hb:=((h.bd hu).append (j.bd hu)).canon;refine⟨aY.add _ _,λt i=>(hb.d t i).dvd (by show Nat.lcm 1 1∣1;decide),hb.b,?_,?_⟩
 ·exact gY (P:=λe=>e.get u<=((max E E':Nat):Int)) λt i=>by
   rcases List.mem_append.1 i with i|i
   ·have:=h.e t i;omega
   ·have:=j.e t i;omega
 ·exact gY (P:=λe=>∀x,x<4->x≠u->e.get x=0) λt i=>by
   rcases List.mem_append.1 i with i|i
   ·exact h.o t i
   ·exact j.o t i
theorem En.sub{u B E B' E':Nat}{p q:List ai}(h:En u B E p)(b:En u B' E' q)(hu:u<4):En u (B+B') (max E E') (dL p q):=h.add b.neg hu
theorem En.one(u:Nat):En u 1 0 qd:=⟨by exact sI.1 dK,λt b=>by rw[List.mem_singleton.1 b];exact Dv.int 1 1,dK,λt b=>by
  rw[List.mem_singleton.1 b]
  rcases u with _|_|_|u<;>simp[Ex.get,e0],λt b x _ _=>by
  rw[List.mem_singleton.1 b]
  rcases x with _|_|_|x<;>rfl⟩
theorem P5{u B E B' E':Nat}{s b:List ai}(h:En u B E s)(hb:En u B' E' b)(hu:u<4)(d:b≠[])(j:B*B'<=2^200)(i:(E+1)*(E'+1)<=900)(e:E+E'<=1000)(k:B<=2^200):fQ (aO s b) b=some s :=
 Og d h.v hb.v (h.bd hu) (hb.bd hu) ⟨rfl,j,e,i⟩ ⟨rfl,k,by show E<=1000;omega,Nat.le_trans (by show E+1<=(E+1)*(E'+1);exact Nat.le_mul_of_pos_right _ oM) i⟩
def jq (l:List (List ai)) (at_ j:Nat):List ai:=if at_<=j/\j<at_+l.length then l.getD (at_+l.length-1-j) []else []
theorem AL(l:List (List ai))(at_ N:Nat)(h:at_+l.length<=N):∀k j,k<=l.length->j<N->(jT l at_ N k).getD j []=if at_+l.length-k<=j/\j<at_+l.length then l.getD (at_+l.length-1-j) []else []
 | 0,j,_,hj=>by rw[jT,jD,List.getElem?_replicate,if_pos hj,if_neg (by omega)];rfl
 | k+1,j,hk,hj=>by
  rw[jT,wL _ _ _ _ _ (by rw[qp];omega),AL l at_ N h k j (by omega) hj];by_cases d:j=at_+l.length-1-k
  ·rw[if_pos d,if_pos ⟨by omega,by omega⟩];congr 1;omega
  ·rw[if_neg d];by_cases b:at_+l.length-k<=j/\j<at_+l.length
   ·rw[if_pos b,if_pos ⟨by omega,b.2⟩]
   ·rw[if_neg b,if_neg (by omega)]
theorem Hd{l:List (List ai)}{at_ N j:Nat}(h:at_+l.length<=N)(b:j<N):(jT l at_ N l.length).getD j []=jq l at_ j:=by rw[AL l at_ N h _ j (nL _) b,jq,Nat.add_sub_cancel]
def il (a b:List (List ai)) (n i j:Nat):List ai:=if n<=i then jq b (i-n) j else jq a i j
theorem P6{a b:List (List ai)}{m n:Nat}(ha:a.length=m+1)(hb:b.length=n+1):Cu (m+n) (xY a b) (il a b n):=by
 have e:a.length-1+(b.length-1)=m+n:=oM;have d:xY a b=(List.range (m+n)).map (dX a b (m+n)):=by rw[xY,e]
 refine⟨by rw[d];simp,λr l=>?_,λi j p k=>?_⟩
 ·rw[d]at l;obtain⟨i,-,rfl⟩:=List.mem_map.1 l;unfold dX;split<;>exact qp _ _ _ _
 ·have o:(xY a b).getD i []=dX a b (m+n) i:=by
   rw[d,jD,List.getElem?_map,List.getElem?_range p];rfl
  unfold iT;rw[o,dX,il,(oM:b.length-1=n)];by_cases h:n<=i
  ·rw[if_pos h,if_pos h];exact Hd oM k
  ·rw[if_neg h,if_neg h];exact Hd oM k
def He (a:List (List ai)) (am:List ai) (k:Nat) (F:Nat->Nat->List ai) (i j:Nat):List ai:=if k<i/\k<j then dL (aO am (F i j)) (aO (F i k) (jq a k j))else F i j
def FF (a:List (List ai)) (am:List ai) (F:Nat->Nat->List ai):Nat->Nat->Nat->List ai
 | 0=>F
 | k+1=>He a am k (FF a am F k)
theorem wM{u α ε:Nat}{p:List ai}(h:En u α ε p)(hu:u<4):∀k,En u (α^k) (ε*k) (nC p k)
 | 0=>by have:=En.one u;rw[Nat.pow_zero,Nat.mul_zero];exact this
 | k+1=>by rw[Nat.pow_succ,Nat.mul_add,nU];exact(wM h hu k).mul h hu
structure Sy (u α γ ε m n:Nat) (a b:List (List ai)) (am:List ai):Prop where
 u4:u<4
 la:a.length=m+1
 lb:b.length=n+1
 ld:am=a.getD m []
 ne:am≠[]
 ea:∀i j,En u α 2 (jq a i j)
 eb:∀i j,En u γ ε (jq b i j)
 em:En u α 2 am
 ag:α<=γ
 e2:2<=ε
section
variable {u α γ ε m n:Nat} {a b:List (List ai)} {am:List ai}
theorem AO(h:Sy u α γ ε m n a b am)(k:Nat):jq a k k=am:=by rw[jq,if_pos ⟨nL _,by have:=h.la;omega⟩,h.ld];congr 1;have:=h.la;omega
theorem UV{i k:Nat}(h:k<i):jq a i k=[]:=by rw[jq,if_neg oM]
theorem zA(h:Sy u α γ ε m n a b am):∀k i j,En u ((2*α)^k*γ) (2*k+ε) (FF a am (il a b n) k i j)
 | 0,i,j=>by
  rw[FF,Nat.pow_zero,Nat.one_mul,Nat.mul_zero,Nat.zero_add,il];split
  ·exact h.eb _ _
  ·exact(h.ea _ _).mono h.ag h.e2
 | k+1,i,j=>by
  have d:=zA h k;rw[FF,He];have e1:(2*α)^(k+1)*γ=α*((2*α)^k*γ)+(2*α)^k*γ*α:=by rw[Nat.pow_succ];grind
  split
  ·refine((h.em.mul (d i j) h.u4).sub ((d i k).mul (h.ea k j) h.u4) h.u4).mono (by rw[e1];exact nL _) oM
  ·refine(d i j).mono ?_ oM;by_cases o:α=0
   ·-- am would be 0
    exfalso;have p:=h.em.b;obtain⟨t,l⟩:=List.exists_mem_of_ne_nil _ h.ne;have q:=rZ l;have r:=(h.em.v.2 t l).1;have s:=fo t.2;rw[o]at p
    have e:bO t.2=0:=by have:((0:Nat):Rat)=0:=rfl;grind
    unfold bO at e;split at e<;>grind
   ·rw[Nat.pow_succ];have:(2*α)^k*1<=(2*α)^k*(2*α):=Nat.mul_le_mul_left _ oM;rw[nU]at this;exact Nat.mul_le_mul_right _ this
theorem Cv(h:Sy u α γ ε m n a b am):∀k i j,k<=i->i<n->k<=j->FF a am (il a b n) k i j=aO (nC am k) (jq a i j)
 | 0,i,j,_,hi,_=>by rw[FF,il,if_neg (by omega)];refine lK (h.ea i j).v (aY.mul _ _) λx=>?_;rw[ev_mul x (aY.pow _ _).nat (h.ea i j).v.nat,ev_pow x h.em.v.nat];grind
 | k+1,i,j,hk,hi,hj=>by have e1:=Cv h k i j oM hi oM;have e2:=Cv h k i k oM hi (nL _);rw[FF,He,if_pos ⟨oM,oM⟩,e1,e2,UV (oM:k<i)];refine lK (aY.sub _ _) (aY.mul _ _) λx=>?_;rw[ev_sub x (aY.mul _ _).nat (aY.mul _ _),ev_mul x h.em.v.nat (aY.mul _ _).nat,ev_mul x (aY.mul _ _).nat (h.ea k j).v.nat,ev_mul x (aY.pow _ _).nat (h.ea i j).v.nat,ev_mul x (aY.pow _ _).nat (h.ea i j).v.nat,ev_mul x (aY.pow _ _).nat aY.nil.nat,ev_pow x h.em.v.nat,ev_pow x h.em.v.nat,dJ];rw[show ev x am^(k+1)=ev x am^k*ev x am from Rat.pow_succ _ _];grind
theorem Ol(h:Sy u α γ ε m n a b am){k:Nat}(d:k<n):FF a am (il a b n) k k k=nC am (k+1):=by rw[Cv h k k k (nL _) d (nL _),AO h];rfl
theorem wN(h:Sy u α γ ε m n a b am):∀k,nC am k≠[]
 | 0=>by show cK 1≠[];decide +kernel
 | k+1=>λhe=>by
  have d:aO (nC am k) am=[]:=he;rcases(pO (aY.pow _ _) h.em.v).1 d with h2|h2
  ·exact wN h k h2
  ·exact h.ne h2
theorem UW(h:Sy u α γ ε m n a b am){k i j:Nat}(l:k<n)(C:n<=4)(d:α<=15)(e:γ<=225)(B:ε<=4)(y:k<i)(z:k<j) :
  fQ (dL (aO (FF a am (il a b n) k k k) (FF a am (il a b n) k i j)) (aO (FF a am (il a b n) k i k) (FF a am (il a b n) k k j))) (nC am k)=some (FF a am (il a b n) (k+1) i j):=by
 have e1:FF a am (il a b n) (k+1) i j=dL (aO am (FF a am (il a b n) k i j)) (aO (FF a am (il a b n) k i k) (jq a k j)):=by rw[FF,He,if_pos ⟨y,z⟩]
 have o:=(zA h k i j).v;have p:=(zA h k i k).v;have q:=(h.ea k j).v
 have e2:dL (aO (FF a am (il a b n) k k k) (FF a am (il a b n) k i j)) (aO (FF a am (il a b n) k i k) (FF a am (il a b n) k k j))=aO (FF a am (il a b n) (k+1) i j) (nC am k):=by rw[Ol h l,Cv h k k j (nL _) l oM,e1];refine lK (aY.sub _ _) (aY.mul _ _) λx=>?_;rw[ev_sub x (aY.mul _ _).nat (aY.mul _ _),ev_mul x (aY.pow _ _).nat o.nat,ev_mul x p.nat (aY.mul _ _).nat,ev_mul x (aY.pow _ _).nat q.nat,ev_mul x (aY.sub _ _).nat (aY.pow _ _).nat,ev_sub x (aY.mul _ _).nat (aY.mul _ _),ev_mul x h.em.v.nat o.nat,ev_mul x p.nat q.nat,ev_pow x h.em.v.nat,ev_pow x h.em.v.nat];rw[show ev x am^(k+1)=ev x am^k*ev x am from Rat.pow_succ _ _];grind
 rw[e2];have b1:(2*α)^(k+1)*γ<=30^4*225:=Nat.mul_le_mul (Nat.le_trans (Nat.pow_le_pow_left oM _) (Nat.pow_le_pow_right oM oM)) e;have r:α^k<=15^4:=Nat.le_trans (Nat.pow_le_pow_left d _) (Nat.pow_le_pow_right oM oM);have s:30^4*225*15^4<=2^200:=dK;refine P5 (zA h (k+1) i j) (wM h.em h.u4 k) h.u4 (wN h k) (Nat.le_trans (Nat.mul_le_mul b1 r) s) (Nat.le_trans (show(2*(k+1)+ε+1)*(2*k+1)<=21*21 from Nat.mul_le_mul oM oM) oM) oM (Nat.le_trans b1 dK)
end
end Q
end
section
namespace Q
open Go Go.RowKit Go.Proofs.YtopclbeomcggiaaGreat
def zB:El (List (List ai)) where
 T:=sS
 sz:=1
 pos:=by decide
 E w cs l:=∃v,cs=[v]/\gB w v l
 len:=by rintro w c t ⟨v,rfl,h⟩;rfl
 one:=by rintro w c t ⟨v,rfl,h⟩ u hu;simp only[List.mem_cons,List.not_mem_nil,or_false]at hu;subst hu;exact h.one
 on:=by rintro w w' c t ⟨v,e,h⟩ hb;exact⟨v,e,h.on hb⟩
 ok T':=qG.ok T'/\polyT≠T'
 lr:=by rintro g T' w w' c t ⟨v,e,h⟩ hl hT;exact⟨v,e,h.lr hl hT.1 hT.2⟩
 self:=by show(uT≠sS/\aR≠sS)/\polyT≠sS;decide
abbrev AP (w:World) (v:Value) (M:Mx):Prop:=bZ zB w v M
abbrev Cw (base:Nat) (w:World) (v:Value) (M:Mx):Prop:=dC zB base w v M
def W9 (w:World) (M:Mx) (e:Ending) (w':World):Prop:=∃v,e=.returned v/\AP w' v M/\Below w.heap.size w w'
end Q
namespace Go.Proofs.YtopclbeomcggiaaGreat
open Go.RowKit Q
theorem EZ:∃z bytes,(Tryz.prog.info? zB.T).map (λi=>(i.zero,i.size,i.bytes))=some (some z,zB.sz,bytes)/\z.cells.size=zB.sz/\bytes<=100000:=⟨.slice none 0 0,24,kM,rfl,dM⟩
end Go.Proofs.YtopclbeomcggiaaGreat
namespace Q
open Go Go.RowKit Go.Proofs.YtopclbeomcggiaaGreat
def qU (l:List (List ai)) (at_ N:Nat):Nat->List (List ai)
 | 0=>List.replicate N []
 | k+1=>(qU l at_ N k).set (at_+k) (l.getD (l.length-1-k) [])
theorem tq(l:List (List ai))(at_ N:Nat):∀k,(qU l at_ N k).length=N
 | 0=>by simp[qU]
 | k+1=>by rw[qU,List.length_set,tq l at_ N k]
theorem Hf(l:List (List ai))(at_ N:Nat)(h:at_+l.length<=N):∀k j,k<=l.length->j<N->(qU l at_ N k).getD j []=if at_<=j/\j<at_+k then l.getD (at_+l.length-1-j) []else []
 | 0,j,_,hj=>by rw[qU,jD,List.getElem?_replicate,if_pos hj,if_neg (by omega)];rfl
 | k+1,j,hk,hj=>by
  rw[qU,wL _ _ _ _ _ (by rw[tq];omega),Hf l at_ N h k j (by omega) hj];by_cases d:j=at_+k
  ·rw[if_pos d,if_pos ⟨by omega,by omega⟩];congr 1;omega
  ·rw[if_neg d];by_cases b:at_<=j/\j<at_+k
   ·rw[if_pos b,if_pos ⟨b.1,by omega⟩]
   ·rw[if_neg b,if_neg (by omega)]
theorem Md{l:List (List ai)}{at_ N:Nat}(h:at_+l.length<=N):qU l at_ N l.length=jT l at_ N l.length:=by refine List.ext_getElem (by rw[tq,qp]) λj b d=>?_;rw[tq]at b;have e1:=Hf l at_ N h l.length j (nL _) b;have e2:=AL l at_ N h l.length j (nL _) b;rw[Nat.add_sub_cancel]at e2;have e:=e1.trans e2.symm;rw[jD,jD,gE (by rw[tq];exact b),gE (by rw[qp];exact b)]at e;exact e
end Q
namespace Go.Proofs.YtopclbeomcggiaaGreat
open Go.RowKit Q Go.WideMaps Go.Maps
theorem E8(va vb:Value)(p q:List ai)(v:Nat)(w:World)(hp:aj w va p)(hq:aj w vb q)(hv:v<4)(vp:aY p)(vq:aY q)(np:p≠[])(nq:q≠[])(dp:aH p v<=1000)(dq:aH q v<=1000)(lp:p.length<=100000000)(lq:q.length<=100000000) :
  Calls Tryz.prog 78 #[va,vb,.int .i64 v] w (W9 w (xY (aB p v) (aB q v))):=by
 obtain⟨aa,ca,rfl,a9⟩:=hp.shape;obtain⟨ab,cb,rfl,ad⟩:=hq.shape;have hA:=zH (Bh _ p v w hp hv oM lp);have hB:=zH (λW (hb:Below w.heap.size w W)=>Bh _ q v W (hq.on hb) hv oM lq)
 have la:1<=(aB p v).length/\(aB p v).length<=1001:=by obtain⟨t,N,e⟩:=lU np vp.nat v;have:=Ex.nat_get (vp.nat t N) v;rw[bv];omega
 have lb:1<=(aB q v).length/\(aB q v).length<=1001:=by obtain⟨t,N,e⟩:=lU nq vq.nat v;have:=Ex.nat_get (vq.nat t N) v;rw[bv];omega
 generalize aB p v=a at *;generalize aB q v=b at *;obtain⟨la,la2⟩:=la;obtain⟨lb,lb2⟩:=lb;obtain⟨m,hm⟩:∃m,a.length=m+1:=⟨a.length - 1,oM⟩;obtain⟨n,hn⟩:∃n,b.length=n+1:=⟨b.length - 1,oM⟩;have z:∀i,dX a b (m+n) i=if n<=i then jT b (i - n) (m+n) b.length else jT a i (m+n) a.length:=λi=>by rw[dX,hn,Nat.add_sub_cancel]
 have C:xY a b=(List.range (m+n)).map (dX a b (m+n)):=by rw[xY,hm,hn,Nat.add_sub_cancel,Nat.add_sub_cancel]
 rw[C];have hm2:(a.length:Int)-1=(m:Int):=oM;have hn2:(b.length:Int)-1=(n:Int):=oM;have ax:m<=1000:=oM;have ay:n<=1000:=oM;replace z:=zH z;replace hm:=zH hm;replace hn:=zH hn;clear C hp hq vp vq np nq dp dq lp lq a9 ad
 go_enter Tryz.func78,Tryz.ntmps78
 go_wp2_with (first
  | (go_at_call 63;refine(hB.out w2 hb2).mono ?_;rintro en w3 ⟨v3,rfl,hv3,hb3⟩;obtain⟨a3,c3,rfl,-⟩:=hv3.shape)
  | (go_at_call 63;refine hA.out.mono ?_;rintro en w2 ⟨v2,rfl,hv2,hb2⟩;obtain⟨a2,c2,rfl,-⟩:=hv2.shape))
 have hw3:Below w.heap.size w w3:=hb2.trans (hb3.mono hb2.size);have hb4:Below w3.heap.size w3 (w3.alloc (.cells #[] sS)):=(Below.refl _ _).alloc (nL _) _;have hown0:=gF zB w3;have ha:=hv2.on hb3;have hb:=hv3;change Cw w3.heap.size (w3.alloc (.cells #[] 75)) _ _ at hown0;change Below w3.heap.size w3 (w3.alloc (.cells #[] 75))at hb4;generalize w3.alloc (.cells #[] 75)=w4 at *;clear hv2 hv3 hb2 hb3 hA hB;replace ha:=zH ha;replace hb:=zH hb
 go_loopw [9,12] (λo i wr=>∃k:Nat,k<=m+n/\i=.int .i64 k/\Hid (Cw w3.heap.size wr o ((List.range k).map (dX a b (m+n))))/\Below w3.heap.size w3 wr) (λ_ i _=>m+n-(intOf i).toNat)
 case atStart=>exact⟨0,oM,nM,zH hown0,hb4⟩
 case round =>
  clear hown0 hb4
  rename World=>wo
  obtain⟨k,hk,rfl,y,r⟩:=hrel;by_cases av:k<m+n
  ·have ar:(k:Int)<(m:Int)+(n:Int):=oM
   go_upto_if 45 with (at_make;refine bV rfl _ _ _ rfl polyT (.slice none 0 0) 1 24 Tryz.underlying75 kM rfl rfl .i64 .i64 _ _ (m+n) rfl rfl oM oM oM oM ?_;intro w5 own5 gr5)
   have hst0:Hid (jU wo.heap.size w5 (m+n) wo.heap.size (List.replicate (m+n) [])):=zH (by
    refine⟨nL _,sM,List.replicate (m+n) (.slice none 0 0),⟨own5,sM,λi v p h1 h2=>?_⟩,sM⟩
    rw[uj h1,uj h2];exact bZ.nil _ _)
   have hr9:=zH (z.out k);clear own5
   go_cut [14,15,46,47,48,49] (λvl vt _ _ _ _ wc=>∃(l:List (List ai))(t:Nat),vt=.int .i64 t/\Hid (gB w3 vl l)/\Hid (dX a b (m+n) k=qU l t (m+n) l.length)/\1<=l.length/\l.length<=1001/\t+l.length<=m+n/\Hid (jU wo.heap.size wc (m+n) wo.heap.size (List.replicate (m+n) []))/\Below wo.heap.size wo wc)
   case first =>
    by_cases ag:n<=k
    ·have a5:(n:Int)<=(k:Int):=oM;obtain⟨t,N⟩:∃t,t=k - n:=⟨_,rfl⟩;have ht2:(k:Int) - (n:Int)=(t:Int):=oM;have u:t+b.length<=m+n:=by have:=hn.out;omega
     replace N:=zH N;go_wp2;go_meet
     case rel=>exact⟨b,t,rfl,hb,zH (by rw[hr9.out,if_pos ag,Md u,N.out]),lb,lb2,u,hst0,gr5⟩
    ·have a5:¬(n:Int)<=(k:Int):=oM;have u:k+a.length<=m+n:=by have:=hm.out;omega
     go_wp2;go_meet
     case rel=>exact⟨a,k,rfl,ha,zH (by rw[hr9.out,if_neg oM,Md u]),la,la2,u,hst0,gr5⟩
   case rest =>
    clear hst0 gr5;obtain⟨l,t,rfl,hl,M,ll,ll2,u,hM,Z⟩:=hcut;obtain⟨al,cl,rfl,-⟩:=hl.out.shape;go_wp2
    go_loopw [16] (λi wz=>∃j:Nat,j<=l.length/\i=.int .i64 j/\Hid (jU wo.heap.size wz (m+n) wo.heap.size (qU l t (m+n) j))/\Below wo.heap.size wo wz) (λi _=>l.length-(intOf i).toNat)
    case atStart=>exact⟨0,oM,nM,hM,Z⟩
    case round =>
     clear hM Z;obtain⟨j,hj,rfl,hM,s⟩:=hrel;by_cases au:j<l.length
     ·obtain⟨x,hx⟩:∃x,x=l.length - 1 - j:=⟨_,rfl⟩;have a7:x<l.length:=oM;have aq:(l.length:Int) - 1 - (j:Int)=(x:Int):=oM;have X:l[x]?=some l[x]:=gE a7;have a0:l.getD x []=l[x]:=by rw[jD,X];rfl
      have hl0:=hl.out.on (r.trans (s.mono r.size));generalize l[x]=c at *;obtain⟨Y,ol,vc,rfl,S,hC⟩:=sN hl0 X;have ap:=bZ.shape S;obtain⟨p',I⟩:∃p',p'=t+j:=⟨_,rfl⟩;have an:(t:Int)+(j:Int)=(p':Int):=oM;have J:p' < m+n:=oM;have hM0:=hM.out;have d:qU l t (m+n) (j+1)=(qU l t (m+n) j).set p' c:=by rw[qU,<-hx,a0,<-I]
      have B:∀W,Below wr.heap.size wr W->W.cell? ⟨Y,ol+x,none⟩=some vc:=λW hb=>by have h1:=(hC.on hb).cell 0 sM;simpa using h1
      have aw:(l.length:Int)<=1001:=oM;have az:(t:Int)<=2000:=oM;replace B:=zH B;replace I:=zH I;replace hx:=zH hx;replace d:=zH d;clear hC X a0 M
      go_upto_region 12 with (fail)
      refine aI trivial (none) (0) (eQ.none) [.eq (.slice (some ⟨wo.heap.size,0,none⟩) (m+n) (m+n)),.eq (.int .i64 t),.eq (.int .i64 j),.eq (.int .i64 p'),.eq (.slice (some ⟨Y,ol,none⟩) l.length cl),.eq (.slice (some ⟨Y,ol,none⟩) l.length cl),.eq (.int .i64 l.length),.eq (.int .i64 ((l.length:Int)-1)),.eq (.int .i64 j),.eq (.int .i64 x),.eq (.pointer (some ⟨Y,ol+x*1,none⟩)),.eq (vc),.eq (.pointer (some ⟨wo.heap.size,0+p'*1,none⟩))] [56,57,58,59,60,61,62,63,64,65,66,67,68] rfl rfl rfl rfl ⟨λ_ _ a _ _ _=>xM rfl (a 13 rfl),λ_ _ a _ _ _=>xM rfl (a 15 rfl),λ_ _ a _ _ _=>xM rfl (a 16 rfl),?_,λ_ _ a _ _ _=>xM rfl (a 14 rfl),λ_ _ a _ _ _=>xM rfl (a 14 rfl),λA _ _ _ _ he=>have h61:=eT 61 (he.1 rfl);pZ rfl,?_,λ_ _ a _ _ _=>xM rfl (a 16 rfl),?_,λ_ _ _ _ _ e=>pI rfl Tryz.underlying75 Y ol x (a7) (e.1 rfl) (e.2.1 rfl),?_,λ_ _ _ _ _ e=>pI rfl Tryz.underlying75 wo.heap.size 0 p' (J) (e.1 rfl) (e.2.1 rfl),trivial⟩ ?_
      ·intro A w1 hA hL hS he;have h57:=eT 57 (he.1 rfl);have h58:=eT 58 (he.2.1 rfl);refine af rfl (aC rfl rfl ?_);generalize A.eval=ev at *;go_simp
       (first|exact lL oM oM|(rw[an];exact lL oM oM))
      ·intro A w1 hA hL hS he;have h62:=eT 62 (he.1 rfl);have hc0:=eC A (.int .i64 1);refine af rfl (aC rfl rfl ?_);generalize A.eval=ev at *;go_simp;exact lL oM oM
      ·intro A w1 hA hL hS he;have h63:=eT 63 (he.1 rfl);have h64:=eT 64 (he.2.1 rfl);refine af rfl (aC rfl rfl ?_);generalize A.eval=ev at *;go_simp
       (first|exact lL oM oM|(rw[aq];exact lL oM oM))
      ·intro A w1 hA hL hS he;have h66:=eT 66 (he.1 rfl);refine af rfl ?_;have c0:=B.out w1 hL.below;exact aC rfl rfl gZ
      ·intro W5 hL5;have hb5:=hL5.below;simp only[aQ,ae.eq,lZ];go_frame;obtain⟨h1,h2,vs,h3,h4⟩:=hM0;have hM5:jU wo.heap.size W5 (m+n) wo.heap.size (qU l t (m+n) j):=⟨h1,h2,vs,h3.on hb5,h4⟩;obtain⟨vo,-,z5,f5,-⟩:=hM5.get J;have hM6:=(hM5.set J (S.on hb5)).1;have a8:Hid (jU wo.heap.size (W5.setCell ⟨wo.heap.size,p',none⟩ vc) (m+n) wo.heap.size (qU l t (m+n) (j+1))):=zH (by rw[d.out];exact hM6);have hb6:=(s.trans (hb5.mono s.size)).trans (bU (W:=W5) (g:=wo.heap.size) (j:=p') (nL _) vc);clear hM5 hM6 hl0 B hL5 d S h3 hM;obtain⟨ac,cc,rfl,-⟩:=ap;go_wp2;go_roundw
       case rel=>exact⟨j+1,oM,nM,a8,hb6⟩
       case measure=>simp[intOf];omega
     ·obtain rfl:j=l.length:=oM;have ao:=hM.out.2.1;obtain⟨h1,-,vs,h3,h4⟩:=hM.out
      have a6:gB wr (.slice (some ⟨wo.heap.size,0,none⟩) (m+n) (m+n)) (dX a b (m+n) k):=by have:=h3.polys;rw[h4,ao,<-M.out]at this;exact this
      have D:Below wr.heap.size wr (wr.alloc (.cells #[.slice (some ⟨wo.heap.size,0,none⟩) (m+n) (m+n)] 75)):=(Below.refl _ _).alloc (nL _) _
      have a4:AP (wr.alloc (.cells #[.slice (some ⟨wo.heap.size,0,none⟩) (m+n) (m+n)] 75)) (.slice (some ⟨wr.heap.size,0,none⟩) 1 1) [dX a b (m+n) k] :=
       jV (e:=zB) (Blk.new wr sS [.slice (some ⟨wo.heap.size,0,none⟩) (m+n) (m+n)]) ⟨_,rfl,a6.on D⟩
      have hown2:=y.out.on (s.trans (D.mono s.size));have G:=(r.trans (s.mono r.size)).trans (D.mono (r.trans (s.mono r.size)).size);have F:∀k,u9.ownBlock=some k->w3.heap.size<=k:=λk hk=>(y.out.base_le k hk).1;have L:(List.range (k+1)).map (dX a b (m+n))=(List.range k).map (dX a b (m+n))++[dX a b (m+n) k]:=by rw[List.range_succ,List.map_append];rfl
      have a1:((List.range k).map (dX a b (m+n))).length+[dX a b (m+n) k].length<=1000000000:=by simp;omega
      replace L:=zH L;clear hM hl M h3
      go_wp2_with (at_builtin;refine dF rfl _ _ 84 rfl Tryz.underlying84 EZ rfl rfl hown2 a4 a1 G.size ?_;intro v8 w8 hown8 hl8 hv8)
      go_roundw
      case rel=>exact⟨k+1,oM,nM,zH (by rw[L.out];exact hown8),G.trans (hl8.belowAt G.size F)⟩
      case measure=>simp[intOf];omega
  ·obtain rfl:k=m+n:=oM;go_wp2;go_ret;exact⟨_,rfl,y.out.isSl,hw3.trans (r.mono hw3.size)⟩
end Go.Proofs.YtopclbeomcggiaaGreat
end
section
namespace Q
open Go Go.Proofs.YtopclbeomcggiaaGreat
section
variable {u α γ ε m n:Nat} {a b:List (List ai)} {am:List ai}
theorem P7(p:List ai):qd=nC p 0:=by show qd=cK 1;decide +kernel
theorem wO(h:Sy u α γ ε m n a b am)(q:n<=4)(d:α<=15)(e:γ<=225)(l:ε<=4):∀k,k<=n->(k<m+n\/k=0) ->
  ∃M,Cu (m+n) M (FF a am (il a b n) k)/\resS (m+n) (m+n) (xY a b) qd false=resS (m+n) (m+n-k) M (nC am k) false
 | 0,_,_=>⟨xY a b,P6 h.la h.lb,by rw[Nat.sub_zero,<-P7]⟩
 | k+1,hk,hk2=>by
  obtain⟨M,s,x⟩:=wO h q d e l k oM oM;obtain⟨f,hf⟩:∃f,m+n - k=f+1:=⟨m+n - k - 1,oM⟩;have o:f≠0:=oM;have hp:=Ol h (oM:k<n)
  obtain⟨r,y,z⟩:=xU (f:=f) (neg:=false) (last:=nC am k) (X:=FF a am (il a b n) (k+1)) s (oM:k+(f+1)=m+n) (by rw[hp];exact wN h _)
   (λi j p B C D=>UW h oM q d e l p C)
  refine⟨r,y.congr λi j p B=>?_,?_⟩
  ·split
   ·rfl
   ·next hc=>rw[FF,He,if_neg hc]
  ·rw[x,hf,z,if_neg o,hp,(oM:m+n-(k+1)=f)]
theorem Y1(h:Sy u α γ ε 0 n a b am)(m:n<=4)(d:α<=15)(e:γ<=225)(i:ε<=4):resS (0+n) (0+n) (xY a b) qd false=some (nC am n):=by
 cases n with
 | zero=>rw[P7 am];rfl
 | succ n =>
  obtain⟨M,j,l⟩:=wO h m d e i n oM oM;rw[l,(oM:0+(n+1) - n=1),AJ j (k:=n) oM,Ol h oM,if_neg (wN h _)];rfl
theorem Y2(h:Sy u α γ ε 1 n a b am)(o:n<=4)(d:α<=15)(i:γ<=225)(j:ε<=4):resS (1+n) (1+n) (xY a b) qd false=some (FF a am (il a b n) n n n):=by
 obtain⟨M,l,m⟩:=wO h o d i j n oM oM;rw[m,(oM:1+n - n=1),AJ l (k:=n) oM];by_cases e:FF a am (il a b n) n n n=[]
 ·rw[if_pos e,e]
 ·rw[if_neg e];rfl
theorem Y3(h:Sy u α γ ε 2 n a b am)(y:n<=4)(l:α<=15)(p:γ<=225)(q:ε<=4){d:List ai}{B E:Nat}(hd:En u B E d)(r:B<=2^100)(K:E<=40)
  (e:∀x,ev x d*ev x am^n=ev x (FF a am (il a b n) n n n)*ev x (FF a am (il a b n) n (n+1) (n+1))-ev x (FF a am (il a b n) n (n+1) n)*ev x (FF a am (il a b n) n n (n+1))) :
  resS (2+n) (2+n) (xY a b) qd false=some d:=by
 obtain⟨M,F,G⟩:=wO h y l p q n oM oM;rw[G,(oM:2+n - n=2)];have i:=zA h n;have z:α^n<=15^4:=Nat.le_trans (Nat.pow_le_pow_left l _) (Nat.pow_le_pow_right oM y);have C:2^100*15^4<=2^200:=dK;have D:2^100<=2^200:=dK;have o:=wM h.em h.u4 n
 have j:∀s,En u B E s->fQ (aO s (nC am n)) (nC am n)=some s:=λs H =>
  P5 H o h.u4 (wN h n) (Nat.le_trans (Nat.mul_le_mul r z) C) (Nat.le_trans (show(E+1)*(2*n+1)<=41*9 from Nat.mul_le_mul oM oM) oM) oM (Nat.le_trans r D)
 have m:En u B E (dL [] d):=((En.nil u 0 E).sub hd h.u4).mono oM oM;refine Oj F (k:=n) oM hd.v ?_ ?_ λI J=>?_
 ·rw[show dL (aO (FF a am (il a b n) n n n) (FF a am (il a b n) n (n+1) (n+1))) (aO (FF a am (il a b n) n (n+1) n) (FF a am (il a b n) n n (n+1)))=aO d (nC am n)from
   lK (aY.sub _ _) (aY.mul _ _) λx=>by
    rw[ev_sub x (aY.mul _ _).nat (aY.mul _ _),ev_mul x (i _ _).v.nat (i _ _).v.nat,ev_mul x (i _ _).v.nat (i _ _).v.nat,ev_mul x hd.v.nat (aY.pow _ _).nat,ev_pow x h.em.v.nat,e x]]
  exact j d hd
 ·rw[show dL (aO (FF a am (il a b n) n (n+1) n) (FF a am (il a b n) n n (n+1))) (aO (FF a am (il a b n) n n n) (FF a am (il a b n) n (n+1) (n+1)))=aO (dL [] d) (nC am n)from
   lK (aY.sub _ _) (aY.mul _ _) λx=>by
    have:=e x;rw[ev_sub x (aY.mul _ _).nat (aY.mul _ _),ev_mul x (i _ _).v.nat (i _ _).v.nat,ev_mul x (i _ _).v.nat (i _ _).v.nat,ev_mul x (aY.sub _ _).nat (aY.pow _ _).nat,ev_sub x aY.nil.nat hd.v,ev_pow x h.em.v.nat,dJ]
    grind]
  exact j _ m
 ·have hz:aO d (nC am n)=[]:=lK (aY.mul _ _) aY.nil λx=>by
   have:=e x;rw[I,J,dJ]at this;rw[ev_mul x hd.v.nat (aY.pow _ _).nat,ev_pow x h.em.v.nat,dJ,this];grind
  rcases(pO hd.v (aY.pow _ _)).1 hz with h5|h5
  ·exact h5
  ·exact absurd h5 (wN h n)
def E9 (A:Nat->Nat->Rat) (am:Rat) (k:Nat) (F:Nat->Nat->Rat) (i j:Nat):Rat:=if k<i/\k<j then am*F i j-F i k*A k j else F i j
def GG (A:Nat->Nat->Rat) (am:Rat) (F:Nat->Nat->Rat):Nat->Nat->Nat->Rat
 | 0=>F
 | k+1=>E9 A am k (GG A am F k)
theorem BD(h:Sy u α γ ε m n a b am)(x:Pt):∀k i j,ev x (FF a am (il a b n) k i j)=GG (λk j=>ev x (jq a k j)) (ev x am) (λi j=>ev x (il a b n i j)) k i j
 | 0,_,_=>rfl
 | k+1,i,j=>by
  have e1:=(zA h k i j).v;have e2:=(zA h k i k).v;rw[FF,GG,He,E9];split
  ·rw[ev_sub x (aY.mul _ _).nat (aY.mul _ _),ev_mul x h.em.v.nat e1.nat,ev_mul x e2.nat (h.ea k j).v.nat,BD h x k i j,BD h x k i k]
  ·exact BD h x k i j
end
end Q
end
section
namespace Q
open Go Go.Proofs.YtopclbeomcggiaaGreat
theorem nV(f:Nat->Rat)(n:Nat):bF f (n+1)=bF f n+f n:=rfl
theorem wP(f:Nat->Rat):∀n,bF f (n+1)=f 0+bF (λi=>f (i+1)) n
 | 0=>by simp only[bF];grind
 | n+1=>by rw[bF,wP f n,bF];grind
theorem Me(f:Nat->Rat):∀n,bF f n=bF (λi=>f (n-1-i)) n
 | 0=>rfl
 | n+1=>by
  rw[wP (λi=>f (n+1-1-i)) n,bF,Me f n]
  rw[dO (n:=n) (f:=λi=>f (n-1-i)) (g:=λi=>f (n+1-1-(i+1))) λi b=>by
   show f _=f _
   congr 1;omega]
  show _=f (n+1-1-0)+_;rw[show n+1-1-0=n by omega];grind
theorem Rx{f:Nat->Rat}{n:Nat}(h:∀i,i<n->f i=0):bF f n=0:=by
 rw[dO h]
 induction n with
 | zero=>rfl
 | succ n b=>rw[bF,b λi d=>h i oM];grind
theorem zC(x:Pt)(v:Nat)(g:Nat->Rat)(N:Nat):∀{p:List ai},dI p->(∀t∈p,t.1.get v<N)->Lf (λe=>lw x (e.put v 0)*g (e.get v).toNat) p=bF (λn=>ev x (aG p v n)*g n) N
 | [],_,_=>by rw[Rx λi _=>by show(0:Rat)*_=0;grind];rfl
 | t::p,h,hN=>by
  have d:=Ex.nat_get h.head v;have j:=hN t sM;rw[pJ,zC x v g N h.tail (λs b=>hN s (by simp[b]))]
  have e:∀n:Nat,ev x (aG (t::p) v n)*g n=(if t.1.get v=n then t.2*lw x (t.1.put v 0)else 0)*g n+ev x (aG p v n)*g n:=by intro n;unfold ev;rw[fC,fC,pJ];split<;>grind
  rw[dO (λi _=>e i),yf,yg (f:=λn:Nat=>(if t.1.get v=(n:Int)then t.2*lw x (t.1.put v 0)else 0)*g n) (k:=(t.1.get v).toNat) oM (λi _ l=>by rw[if_neg oM];grind),if_pos oM];grind
def gq (c1 c0:Rat):Nat->Rat × Rat
 | 0=>(0,1)
 | n+1=>((gq c1 c0 n).2-(gq c1 c0 n).1*c1,-((gq c1 c0 n).1*c0))
theorem Om(c1 c0:Rat)(i:Nat):∀j,(gq c1 c0 (i+j)).1=(gq c1 c0 i).1*(gq c1 c0 j).2+(gq c1 c0 i).2*(gq c1 c0 j).1-c1*((gq c1 c0 i).1*(gq c1 c0 j).1)/\(gq c1 c0 (i+j)).2=(gq c1 c0 i).2*(gq c1 c0 j).2-c0*((gq c1 c0 i).1*(gq c1 c0 j).1)
 | 0=>by simp only[gq,Nat.add_zero];grind
 | j+1=>by obtain⟨b,d⟩:=Om c1 c0 i j;rw[<-Nat.add_assoc];simp only[gq];rw[b,d];grind
def mr (x:Pt) (v:Nat) (c1 c0:Rat) (p:List ai):Rat:=Lf (λe=>lw x (e.put v 0)*(gq c1 c0 (e.get v).toNat).1) p
def tC (x:Pt) (v:Nat) (c1 c0:Rat) (p:List ai):Rat:=Lf (λe=>lw x (e.put v 0)*(gq c1 c0 (e.get v).toNat).2) p
theorem put_add(e f:Ex)(v:Nat):(e.add f).put v 0=(e.put v 0).add (f.put v 0):=by rcases v with _|_|_|v<;>rfl
theorem wQ{f g:Ex->Rat}{l:List ai}(b:dI l)(h:∀e,e.nat=true->f e=g e):Lf f l=Lf g l:=iU λt d=>h _ (b t d)
theorem Ji(f g:Ex->Rat)(l:List ai):Lf (λe=>f e-g e) l=Lf f l-Lf g l:=by have:Lf (λe=>f e-g e) l=Lf (λe=>f e+(-1)*g e) l:=iU λt _=>gR;rw[this,Mw,jK];grind
theorem BG(x:Pt){e f:Ex}(v:Nat)(he:e.nat=true)(hf:f.nat=true):lw x ((e.add f).put v 0)=lw x (e.put v 0)*lw x (f.put v 0):=by rw[put_add,Hy x (Ex.put_nat he v (Int.le_refl 0)) (Ex.put_nat hf v (Int.le_refl 0))]
theorem BH{e f:Ex}(v:Nat)(he:e.nat=true)(hf:f.nat=true):((e.add f).get v).toNat=(e.get v).toNat+(f.get v).toNat:=by rw[Ex.get_add,Int.toNat_add (Ex.nat_get he v) (Ex.nat_get hf v)]
theorem Cx(x:Pt)(v:Nat)(c1 c0:Rat){p q:List ai}(hp:dI p)(hq:dI q):mr x v c1 c0 (aO p q)=mr x v c1 c0 p*tC x v c1 c0 q+tC x v c1 c0 p*mr x v c1 c0 q-c1*(mr x v c1 c0 p*mr x v c1 c0 q):=by
 unfold mr tC;rw[aO,(jA (dI.prods hp hq)) _,qw]
 have d:∀e:Ex,e.nat=true->Lf (λb=>lw x ((e.add b).put v 0)*(gq c1 c0 ((e.add b).get v).toNat).1) q =
   (Lf (λe=>lw x (e.put v 0)*(gq c1 c0 (e.get v).toNat).2) q*(lw x (e.put v 0)*(gq c1 c0 (e.get v).toNat).1)+Lf (λe=>lw x (e.put v 0)*(gq c1 c0 (e.get v).toNat).1) q*(lw x (e.put v 0)*(gq c1 c0 (e.get v).toNat).2))-(c1*Lf (λe=>lw x (e.put v 0)*(gq c1 c0 (e.get v).toNat).1) q)*(lw x (e.put v 0)*(gq c1 c0 (e.get v).toNat).1):=λ(e:Ex) he=>by
  have h:Lf (λb=>lw x ((e.add b).put v 0)*(gq c1 c0 ((e.add b).get v).toNat).1) q=Lf (λb=>((lw x (e.put v 0)*(gq c1 c0 (e.get v).toNat).1)*(lw x (b.put v 0)*(gq c1 c0 (b.get v).toNat).2)+(lw x (e.put v 0)*(gq c1 c0 (e.get v).toNat).2)*(lw x (b.put v 0)*(gq c1 c0 (b.get v).toNat).1))-(c1*(lw x (e.put v 0)*(gq c1 c0 (e.get v).toNat).1))*(lw x (b.put v 0)*(gq c1 c0 (b.get v).toNat).1)) q :=
   wQ hq λ(b:Ex) he'=>by rw[BG x v he he',BH v he he',(Om c1 c0 _ _).1];grind
  rw[h,Ji,Mw,jK,jK,jK];grind
 rw[wQ hp d,Ji,Mw,jK,jK,jK];grind
theorem Cy(x:Pt)(v:Nat)(c1 c0:Rat){p q:List ai}(hp:dI p)(hq:dI q):tC x v c1 c0 (aO p q)=tC x v c1 c0 p*tC x v c1 c0 q-c0*(mr x v c1 c0 p*mr x v c1 c0 q):=by
 unfold mr tC;rw[aO,(jA (dI.prods hp hq)) _,qw]
 have d:∀e:Ex,e.nat=true->Lf (λb=>lw x ((e.add b).put v 0)*(gq c1 c0 ((e.add b).get v).toNat).2) q =
   Lf (λe=>lw x (e.put v 0)*(gq c1 c0 (e.get v).toNat).2) q*(lw x (e.put v 0)*(gq c1 c0 (e.get v).toNat).2)-(c0*Lf (λe=>lw x (e.put v 0)*(gq c1 c0 (e.get v).toNat).1) q)*(lw x (e.put v 0)*(gq c1 c0 (e.get v).toNat).1):=λ(e:Ex) he=>by
  have h:Lf (λb=>lw x ((e.add b).put v 0)*(gq c1 c0 ((e.add b).get v).toNat).2) q=Lf (λb=>(lw x (e.put v 0)*(gq c1 c0 (e.get v).toNat).2)*(lw x (b.put v 0)*(gq c1 c0 (b.get v).toNat).2)-(c0*(lw x (e.put v 0)*(gq c1 c0 (e.get v).toNat).1))*(lw x (b.put v 0)*(gq c1 c0 (b.get v).toNat).1)) q :=
   wQ hq λ(b:Ex) he'=>by rw[BG x v he he',BH v he he',(Om c1 c0 _ _).2];grind
  rw[h,Ji,jK,jK];grind
 rw[wQ hp d,Ji,jK,jK];grind
def pF (c1 c0 r s:Rat):Rat:=s*s-c1*(r*s)+c0*(r*r)
theorem UX(x:Pt)(v:Nat)(c1 c0:Rat){p q:List ai}(hp:dI p)(hq:dI q):pF c1 c0 (mr x v c1 c0 (aO p q)) (tC x v c1 c0 (aO p q))=pF c1 c0 (mr x v c1 c0 p) (tC x v c1 c0 p)*pF c1 c0 (mr x v c1 c0 q) (tC x v c1 c0 q):=by rw[Cx x v c1 c0 hp hq,Cy x v c1 c0 hp hq];unfold pF;grind
section
variable {a0 a1 am c1 c0:Rat} {A F:Nat->Nat->Rat} {n:Nat}
theorem P8(h:∀k,A k k=am)(b:∀k,A k (k+1)=c1*am)(d:∀k,A k (k+2)=c0*am)(e:∀k j,k+3<=j->A k j=0)(i:Nat):∀k,k<=i ->
  GG A am F k i k=am^k*bF (λj=>F i j*(gq c1 c0 (k+1-j)).1) (k+2) /\
  GG A am F k i (k+1)=am^k*bF (λj=>F i j*(gq c1 c0 (k+1-j)).2) (k+2)/\∀j,k+2<=j->GG A am F k i j=am^k*F i j
 | 0,_=>by
  refine⟨?_,?_,λj _=>?_⟩
  ·simp only[GG,bF,gq,Rat.pow_zero,show 0+1-1=0 from rfl];clear h b d e;grind
  ·simp only[GG,bF,gq,Rat.pow_zero,show 0+1-1=0 from rfl];clear h b d e;grind
  ·simp only[GG,Rat.pow_zero];grind
 | k+1,hk=>by
  obtain⟨i1,i2,i3⟩:=P8 h b d e i k oM
  have e1:bF (λj=>F i j*(gq c1 c0 (k+1+1-j)).1) (k+2)=bF (λj=>F i j*(gq c1 c0 (k+1-j)).2) (k+2)-c1*bF (λj=>F i j*(gq c1 c0 (k+1-j)).1) (k+2):=by
   have:∀m,m<=k+2->bF (λj=>F i j*(gq c1 c0 (k+1+1-j)).1) m=bF (λj=>F i j*(gq c1 c0 (k+1-j)).2) m-c1*bF (λj=>F i j*(gq c1 c0 (k+1-j)).1) m:=by
    intro m hm
    induction m with
    | zero=>simp only[bF];grind
    | succ m l =>
     rw[bF,bF,bF,l oM,(oM:k+1+1-m=(k+1-m)+1)];simp only[gq];grind
   exact this _ (nL _)
  have e2:bF (λj=>F i j*(gq c1 c0 (k+1+1-j)).2) (k+2)=- (c0*bF (λj=>F i j*(gq c1 c0 (k+1-j)).1) (k+2)):=by
   have:∀m,m<=k+2->bF (λj=>F i j*(gq c1 c0 (k+1+1-j)).2) m=- (c0*bF (λj=>F i j*(gq c1 c0 (k+1-j)).1) m):=by
    intro m hm
    induction m with
    | zero=>simp only[bF];grind
    | succ m l =>
     rw[bF,bF,l oM,(oM:k+1+1-m=(k+1-m)+1)];simp only[gq];grind
   exact this _ (nL _)
  have hp:am^(k+1)=am^k*am:=Rat.pow_succ _ _;refine⟨?_,?_,λj n=>?_⟩
  ·rw[GG,E9,if_pos ⟨oM,oM⟩,i1,i2,b,nV _ (k+2),e1,hp,(oM:k+1+1-(k+2)=0)];simp only[gq];grind
  ·rw[GG,E9,if_pos ⟨oM,oM⟩,i1,i3 (k+1+1) oM,show A k (k+1+1)=c0*am from d k,nV _ (k+2),e2,hp,(oM:k+1+1-(k+2)=0)];simp only[gq];grind
  ·rw[GG,E9,if_pos ⟨oM,oM⟩,i3 j oM,e k j oM,hp];grind
theorem P9(e:∀k,A k k=am)(b:∀k,A k (k+1)=-(c0*am))(d:∀k j,k+2<=j->A k j=0)(i:Nat):∀k,k<=i ->
  GG A am F k i k=am^k*bF (λj=>F i j*c0^(k-j)) (k+1)/\∀j,k+1<=j->GG A am F k i j=am^k*F i j
 | 0,_=>by
  refine⟨?_,λj _=>?_⟩
  ·simp only[GG,bF,Rat.pow_zero,Nat.sub_zero];grind
  ·simp only[GG,Rat.pow_zero];grind
 | k+1,hk=>by
  obtain⟨i1,i3⟩:=P9 e b d i k oM
  have e1:bF (λj=>F i j*c0^(k+1-j)) (k+1)=c0*bF (λj=>F i j*c0^(k-j)) (k+1):=by
   have:∀m,m<=k+1->bF (λj=>F i j*c0^(k+1-j)) m=c0*bF (λj=>F i j*c0^(k-j)) m:=by
    intro m hm
    induction m with
    | zero=>simp only[bF];grind
    | succ m h =>
     rw[bF,bF,h oM,(oM:k+1-m=(k-m)+1),Rat.pow_succ];grind
   exact this _ (nL _)
  have hp:am^(k+1)=am^k*am:=Rat.pow_succ _ _;refine⟨?_,λj l=>?_⟩
  ·rw[GG,E9,if_pos ⟨oM,oM⟩,i1,i3 (k+1) oM,b,nV _ (k+1),e1,hp,(oM:k+1-(k+1)=0),Rat.pow_zero];grind
  ·rw[GG,E9,if_pos ⟨oM,oM⟩,i3 j oM,d k j oM,hp];grind
end
theorem Jj{g:Nat->Rat}(x:Pt){b:List (List ai)}{n:Nat}(hb:b.length=n+1):bF (λj=>ev x (jq b 0 j)*g (n-j)) (n+1)=bF (λi=>ev x (b.getD i [])*g i) (n+1):=by rw[Me];refine dO λi d=>?_;rw[jq,if_pos ⟨oM,oM⟩,(oM:0+b.length-1-(n+1-1-i)=i),(oM:n-(n+1-1-i)=i)]
theorem UY{g:Nat->Rat}(x:Pt){b:List (List ai)}{n:Nat}(hb:b.length=n+1):bF (λj=>ev x (jq b 0 j)*g (n+1-j)) (n+2)=bF (λi=>ev x (b.getD i [])*g (i+1)) (n+1):=by
 rw[nV _ (n+1),dO (n:=n+1) (g:=λj=>ev x (jq b 0 j)*(λi=>g (i+1)) (n-j)) λj d=>by
  show _*g _=_*g _
  rw[(oM:n+1-j=n-j+1)]]
 rw[Jj (g:=λi=>g (i+1)) x hb,jq,if_neg oM,dJ];grind
theorem UZ{g:Nat->Rat}(x:Pt){b:List (List ai)}{n:Nat}(hb:b.length=n+1):bF (λj=>ev x (jq b 1 j)*g (n+1-j)) (n+2)=bF (λi=>ev x (b.getD i [])*g i) (n+1):=by
 rw[wP,dO (n:=n+1) (g:=λj=>ev x (jq b 0 j)*g (n-j)) λj d=>by
  show ev x (jq b 1 (j+1))*g (n+1-(j+1))=_;rw[(oM:n+1-(j+1)=n-j),jq,jq]
  congr 2
  by_cases h:j<n+1
  ·rw[if_pos ⟨oM,oM⟩,if_pos ⟨oM,oM⟩];congr 1;omega
  ·omega]
 rw[Jj x hb,jq,if_neg oM,dJ];grind
end Q
end
section
namespace Q
open Go Go.Proofs.YtopclbeomcggiaaGreat
def sL (x:Pt) (g:Nat->Rat) (l:List (List ai)):Rat:=bF (λi=>ev x (l.getD i [])*g i) l.length
theorem Jk(x:Pt)(g:Nat->Rat)(c:List ai)(l:List (List ai)):sL x g (c::l)=ev x c*g 0+sL x (λi=>g (i+1)) l:=by unfold sL;rw[List.length_cons,wP];rfl
theorem Fa(x:Pt)(g h:Nat->Rat)(c d:Rat):∀l,sL x (λi=>c*g i+d*h i) l=c*sL x g l+d*sL x h l:=by
 have:∀(f:Nat->Rat) n,bF (λi=>f i*(c*g i+d*h i)) n=c*bF (λi=>f i*g i) n+d*bF (λi=>f i*h i) n:=by
  intro f n
  induction n with
  | zero=>simp only[bF];grind
  | succ n b=>rw[nV,nV,nV,b];grind
 exact λl=>this _ _
theorem tu(x:Pt){g h:Nat->Rat}(e:∀i,g i=h i)(l:List (List ai)):sL x g l=sL x h l:=by rw[show g=h from funext e]
section
variable (a0 a1 a2:List ai)
def XL:Nat->List ai
 | 0=>cK 2
 | 1=>dL [] a1
 | k+2=>dL (dL [] (aO a1 (XL (k+1)))) (aO (aO a0 a2) (XL k))
def tP (n:Nat):Nat->List (List ai)->List ai
 | _,[]=>[]
 | k,b::l=>mP (aO b (aO (nC a2 (n-k)) (XL a0 a1 a2 k))) (tP n (k+1) l)
def dP:List (List ai)->List ai
 | []=>[]
 | b::l=>mP (mP (aO (nC a2 l.length) (aO b b)) (aO b (tP a0 a1 a2 l.length 1 l))) (aO a0 (dP l))
end
def RU (c1 c0:Rat) (k:Nat):Rat:=2*(gq c1 c0 k).2-c1*(gq c1 c0 k).1
section
variable {u:Nat} {a0 a1 a2:List ai}
theorem Hg(hu:u<4)(e:En u 15 2 a0)(d:En u 15 2 a1)(h:En u 15 2 a2):∀k,En u (2*30^k) (2*k) (XL a0 a1 a2 k)
 | 0=>by
  refine⟨aY.const _,λt b=>?_,show bL [(e0,2)]<=((2:Nat):Rat) by decide +kernel,λt b=>?_,λt b x _ _=>?_⟩
  ·rw[show t=(e0,(2:Rat))from List.mem_singleton.1 (show t∈[(e0,(2:Rat))]from b)];exact Dv.int 1 2
  ·rw[show t=(e0,(2:Rat))from List.mem_singleton.1 (show t∈[(e0,(2:Rat))]from b)];rcases u with _|_|_|u<;>simp[Ex.get,e0]
  ·rw[show t=(e0,(2:Rat))from List.mem_singleton.1 (show t∈[(e0,(2:Rat))]from b)];rcases x with _|_|_|x<;>rfl
 | 1=>((En.nil u 0 0).sub d hu).mono (by omega) (by omega)
 | k+2=>by have i1:=Hg hu e d h (k+1);have i0:=Hg hu e d h k;have:=((En.nil u 0 0).sub (d.mul i1 hu) hu).sub ((e.mul h hu).mul i0 hu) hu;refine this.mono ?_ oM;rw[Nat.pow_succ,Nat.pow_succ];omega
theorem zad(hu:u<4)(e:En u 15 2 a0)(h:En u 15 2 a1)(d:En u 15 2 a2)(n:Nat):∀(l:List (List ai))(k:Nat),(∀b∈l,En u 225 4 b)->k+l.length=n+1->En u (l.length*(450*30^n)) (4+2*n) (tP a0 a1 a2 n k l)
 | [],_,_,_=>(En.nil u 0 0).mono (by omega) (by omega)
 | b::l,k,hb,hk=>by
  rw[List.length_cons]at hk;have i1:=zad hu e h d n l (k+1) (λc hc=>hb c (by simp[hc])) oM;have i2:=(hb b sM).mul ((wM d hu (n-k)).mul (Hg hu e h d k) hu) hu;have i3:=i2.add i1 hu;rw[tP];refine i3.mono ?_ oM;rw[List.length_cons,Nat.add_mul,Nat.one_mul,Nat.add_comm];refine Nat.add_le_add_left ?_ _
  have e1:15^(n-k)*30^k<=30^n:=by
   have:30^n=30^(n-k)*30^k:=by rw[<-Nat.pow_add];congr 1;omega
   rw[this];exact Nat.mul_le_mul_right _ (Nat.pow_le_pow_left oM _)
  calc 225*(15^(n-k)*(2*30^k))=450*(15^(n-k)*30^k):=gR
   _<=450*30^n:=Nat.mul_le_mul_left _ e1
def dB:Nat->Nat
 | 0=>0
 | n+1=>15^n*(225*225)+225*(n*(450*30^n))+15*dB n
theorem zae(hu:u<4)(e:En u 15 2 a0)(i:En u 15 2 a1)(h:En u 15 2 a2):∀(l:List (List ai)),(∀b∈l,En u 225 4 b)->En u (dB l.length) (8+2*l.length) (dP a0 a1 a2 l)
 | [],_=>(En.nil u 0 0).mono (by omega) (by omega)
 | b::l,hb=>by have i1:=zae hu e i h l λc hc=>hb c (by simp[hc]);have d:=hb b sM;have i2:=zad hu e i h l.length l 1 (λc hc=>hb c (by simp[hc])) oM;have i3:=(((wM h hu l.length).mul (d.mul d hu) hu).add (d.mul i2 hu) hu).add (e.mul i1 hu) hu;rw[dP,List.length_cons];exact i3.mono (nL _) oM
theorem Y4(x:Pt):ev x (cK 2)=2:=mQ x 2
theorem U3(hu:u<4)(d:En u 15 2 a0)(b:En u 15 2 a1)(e:En u 15 2 a2)(x:Pt){c1 c0:Rat}(e1:ev x a1=c1*ev x a2)(e0:ev x a0=c0*ev x a2):∀k,ev x (XL a0 a1 a2 k)=ev x a2^k*RU c1 c0 k
 | 0=>by rw[XL,Y4,Rat.pow_zero];simp only[RU,gq];grind
 | 1=>by rw[XL,ev_sub x aY.nil.nat b.v,dJ,e1];simp only[RU,gq];rw[show ev x a2^1=ev x a2 by rw[Rat.pow_succ,Rat.pow_zero];grind];grind
 | k+2=>by
  have i1:=U3 hu d b e x e1 e0 (k+1);have i0:=U3 hu d b e x e1 e0 k;have i:=(Hg hu d b e (k+1)).v;have h:=(Hg hu d b e k).v;rw[XL,ev_sub x (aY.sub _ _).nat (aY.mul _ _),ev_sub x aY.nil.nat (aY.mul _ _),ev_mul x b.v.nat i.nat,ev_mul x (aY.mul _ _).nat h.nat,ev_mul x d.v.nat e.v.nat,i1,i0,dJ,e1,e0];have p1:ev x a2^(k+1)=ev x a2^k*ev x a2:=Rat.pow_succ _ _;have p2:ev x a2^(k+2)=ev x a2^k*ev x a2*ev x a2:=by rw[Rat.pow_succ,Rat.pow_succ]
  rw[p1,p2];have t2:RU c1 c0 (k+2)=- (c1*RU c1 c0 (k+1))-c0*RU c1 c0 k:=by simp only[RU,gq];grind
  rw[t2];grind
theorem zaf(hu:u<4)(e:En u 15 2 a0)(j:En u 15 2 a1)(d:En u 15 2 a2)(x:Pt){c1 c0:Rat}(e1:ev x a1=c1*ev x a2)(e0:ev x a0=c0*ev x a2)(n:Nat):∀(l:List (List ai))(k:Nat),(∀b∈l,aY b)->k+l.length=n+1 ->
  aY (tP a0 a1 a2 n k l)/\ev x (tP a0 a1 a2 n k l)=ev x a2^n*sL x (λi=>RU c1 c0 (i+k)) l
 | [],_,_,_=>⟨aY.nil,by show(0:Rat)=_*0;grind⟩
 | b::l,k,hb,hk=>by
  rw[List.length_cons]at hk;obtain⟨i1,i2⟩:=zaf hu e j d x e1 e0 n l (k+1) (λc hc=>hb c (by simp[hc])) oM;have m:=hb b sM;refine⟨aY.add _ _,?_⟩;rw[tP,ev_add x (aY.mul _ _).nat i1.nat,ev_mul x m.nat (aY.mul _ _).nat,ev_mul x (aY.pow _ _).nat (Hg hu e j d k).v.nat,ev_pow x d.v.nat,U3 hu e j d x e1 e0,i2,Jk];rw[tu x (g:=λi=>RU c1 c0 (i+1+k)) (h:=λi=>RU c1 c0 (i+(k+1))) λi=>by rw[(oM:i+1+k=i+(k+1))]];have p:ev x a2^n=ev x a2^(n - k)*ev x a2^k:=by rw[<-ow];congr 1;omega
  rw[p,Nat.zero_add];grind
theorem zah(hu:u<4)(d:En u 15 2 a0)(k:En u 15 2 a1)(e:En u 15 2 a2)(x:Pt){c1 c0:Rat}(e1:ev x a1=c1*ev x a2)(e0:ev x a0=c0*ev x a2):∀(l:List (List ai)),(∀b∈l,aY b) ->
  aY (dP a0 a1 a2 l)/\ev x (dP a0 a1 a2 l)*ev x a2=ev x a2^l.length*pF c1 c0 (sL x (λi=>(gq c1 c0 i).1) l) (sL x (λi=>(gq c1 c0 i).2) l)
 | [],_=>⟨aY.nil,by show(0:Rat)*_=_*pF c1 c0 0 0;unfold pF;grind⟩
 | b::l,hb=>by
  obtain⟨i1,i2⟩:=zah hu d k e x e1 e0 l λc hc=>hb c (by simp[hc]);obtain⟨i3,i4⟩:=zaf hu d k e x e1 e0 l.length l 1 (λc hc=>hb c (by simp[hc])) oM;have j:=hb b sM;refine⟨aY.add _ _,?_⟩;rw[dP,ev_add x (aY.add _ _).nat (aY.mul _ _).nat,ev_add x (aY.mul _ _).nat (aY.mul _ _).nat,ev_mul x (aY.pow _ _).nat (aY.mul _ _).nat,ev_mul x j.nat j.nat,ev_mul x j.nat i3.nat,ev_mul x d.v.nat i1.nat,ev_pow x e.v.nat,i4,e0,List.length_cons,Jk,Jk];rw[tu x (g:=λi=>RU c1 c0 (i+1)) (h:=λi=>(c1*c1 - 2*c0)*(gq c1 c0 i).1+(-c1)*(gq c1 c0 i).2) λi=>by simp only[RU,gq];grind];rw[tu x (g:=λi=>(gq c1 c0 (i+1)).1) (h:=λi=>(-c1)*(gq c1 c0 i).1+1*(gq c1 c0 i).2) λi=>by simp only[gq];grind];rw[tu x (g:=λi=>(gq c1 c0 (i+1)).2) (h:=λi=>(-c0)*(gq c1 c0 i).1+0*(gq c1 c0 i).2) λi=>by simp only[gq];grind];rw[Fa,Fa,Fa,show ev x a2^(l.length+1)=ev x a2^l.length*ev x a2 from Rat.pow_succ _ _];simp only[gq];generalize sL x (λi=>(gq c1 c0 i).1) l=P at *;generalize sL x (λi=>(gq c1 c0 i).2) l=S at *;generalize ev x (dP a0 a1 a2 l)=D at *;generalize ev x a2^l.length=W at *;clear i1 i3 i4 d k e e1 e0 j hb;unfold pF at *;have:(W*(ev x b*ev x b)+ev x b*(W*((c1*c1 - 2*c0)*P+-c1*S))+c0*ev x a2*D)*ev x a2=(W*(ev x b*ev x b)+ev x b*(W*((c1*c1 - 2*c0)*P+-c1*S)))*ev x a2+c0*ev x a2*(D*ev x a2):=gR
  rw[this,i2];grind
end
end Q
end
section
namespace Q
open Go Go.Proofs.YtopclbeomcggiaaGreat
theorem U4{p q r:List ai}(hp:aY p)(hq:aY q)(d:aY r)(b:r≠[])(h:∀x,ev x r≠0->ev x p=ev x q):p=q:=by
 have i:aO r (dL p q)=[]:=lK (aY.mul _ _) aY.nil λx=>by
  rw[ev_mul x d.nat (aY.sub _ _).nat,ev_sub x hp.nat hq,dJ];by_cases e:ev x r=0
  ·rw[e];grind
  ·rw[h x e];grind
 rcases(pO d (aY.sub _ _)).1 i with h2|h2
 ·exact absurd h2 b
 ·refine lK hp hq λx=>?_;have j:=ev_sub x hp.nat hq;rw[h2,dJ]at j;grind
def RV:Nat->Rat->Rat->Rat->List ai->List (List ai)->Pt->Rat
 | 0,_,_,_,_,_,_=>1
 | 1,_,c0,_,_,b,x=>sL x (λi=>c0^i) b
 | _,c1,c0,_,_,b,x=>pF c1 c0 (sL x (λi=>(gq c1 c0 i).1) b) (sL x (λi=>(gq c1 c0 i).2) b)
section
variable {u m n:Nat} {a b:List (List ai)} {am:List ai}
theorem XM{l:List (List ai)}{u B E:Nat}(h:∀j,En u B E (jq l 0 j)):∀c∈l,En u B E c:=λc hc=>by obtain⟨i,b,rfl⟩:=List.mem_iff_getElem.1 hc;have:=h (l.length - 1 - i);rw[jq,if_pos ⟨oM,oM⟩,(oM:0+l.length - 1 - (l.length - 1 - i)=i),jD,gE b]at this;exact this
theorem Fb{l:List (List ai)}{k i:Nat}(h:i<l.length):jq l k (k+(l.length-1-i))=l.getD i []:=by rw[jq,if_pos ⟨oM,oM⟩];congr 1;omega
theorem Qa{l:List (List ai)}{k j:Nat}(h:k+l.length<=j):jq l k j=[]:=by rw[jq,if_neg oM]
theorem U5{k n j:Nat}(h:n<=k):il a b n k j=jq b (k-n) j:=by rw[il,if_pos h]
theorem U6(h:Sy u 15 225 4 0 n a b am)(e:n<=4):∃d,resS (0+n) (0+n) (xY a b) qd false=some d/\En u (2^100) 40 d/\∀x,ev x am≠0->ev x d=ev x am^n:=by refine⟨nC am n,Y1 h e oM oM oM,(wM h.em h.u4 n).mono ?_ oM,λx _=>ev_pow x h.em.v.nat n⟩;exact Nat.le_trans (Nat.pow_le_pow_right oM e) dK
theorem U7(h:Sy u 15 225 4 1 n a b am)(e:n<=4):∃d,resS (1+n) (1+n) (xY a b) qd false=some d/\En u (2^100) 40 d/\∀x c,ev x am≠0->ev x (a.getD 0 [])=-(c*ev x am)->ev x d=ev x am^n*sL x (λi=>c^i) b:=by
 refine⟨_,Y2 h e oM oM oM,(zA h n n n).mono ?_ oM,λx c _ hc=>?_⟩
 ·exact Nat.le_trans (Nat.mul_le_mul (Nat.pow_le_pow_right oM e) (nL _)) dK
 ·have la:=h.la
  rw[BD h x,(P9 (λk=>by rw[AO h]) (λk=>by
   have:=Fb (l:=a) (k:=k) (i:=0) oM;rw[la]at this
   rw[(oM:k+1=k+(1+1-1-0)),this,hc]) (λk j m=>by rw[Qa oM,dJ]) n n (nL _)).1]
  rw[dO (n:=n+1) (g:=λj=>ev x (jq b 0 j)*(λi=>c^i) (n-j)) λj _=>by
   rw[U5 (nL n),Nat.sub_self],Jj x h.lb,sL,h.lb]
theorem U8(h:Sy u 15 225 4 2 n a b am)(q:n<=4):∃d,resS (2+n) (2+n) (xY a b) qd false=some d/\En u (2^100) 40 d/\∀x c1 c0,ev x am≠0->ev x (a.getD 1 [])=c1*ev x am->ev x (a.getD 0 [])=c0*ev x am ->
  ev x d=ev x am^n*pF c1 c0 (sL x (λi=>(gq c1 c0 i).1) b) (sL x (λi=>(gq c1 c0 i).2) b):=by
 have la:=h.la;have ea:=XM (λj=>h.ea 0 j);have eb:=XM (λj=>h.eb 0 j);have g1:En u 15 2 (a.getD 1 []):=by have:=Fb (l:=a) (k:=0) (i:=1) oM;rw[<-this];exact h.ea _ _
 have o:En u 15 2 (a.getD 0 []):=by have:=Fb (l:=a) (k:=0) (i:=0) oM;rw[<-this];exact h.ea _ _
 have hd:=zae h.u4 o g1 h.em b eb
 have p:dB b.length<=2^100:=by rw[h.lb];have:∀k,k<=4->dB (k+1)<=2^100:=dK;exact this n q
 have key:∀x c1 c0,ev x am≠0->ev x (a.getD 1 [])=c1*ev x am->ev x (a.getD 0 [])=c0*ev x am ->
   ev x (dP (a.getD 0 []) (a.getD 1 []) am b)=ev x am^n*pF c1 c0 (sL x (λi=>(gq c1 c0 i).1) b) (sL x (λi=>(gq c1 c0 i).2) b):=λx c1 c0 m e1 e0=>by
  have:=(zah h.u4 o g1 h.em x e1 e0 b λc hc=>(eb c hc).v).2;rw[h.lb,show ev x am^(n+1)=ev x am^n*ev x am from Rat.pow_succ _ _]at this;grind
 refine⟨dP (a.getD 0 []) (a.getD 1 []) am b,Y3 h q oM oM oM hd p (by have:=h.lb;omega) ?_,hd.mono p (by have:=h.lb;omega),key⟩;have e:=zA h n
 have eq:aO (dP (a.getD 0 []) (a.getD 1 []) am b) (nC am n)=dL (aO (FF a am (il a b n) n n n) (FF a am (il a b n) n (n+1) (n+1))) (aO (FF a am (il a b n) n (n+1) n) (FF a am (il a b n) n n (n+1))):=by
  refine U4 (aY.mul _ _) (aY.sub _ _) h.em.v h.ne λx m=>?_;obtain⟨c1,e1⟩:∃c1,ev x (a.getD 1 [])=c1*ev x am:=⟨ev x (a.getD 1 [])/ev x am,gR⟩;obtain⟨c0,e0⟩:∃c0,ev x (a.getD 0 [])=c0*ev x am:=⟨ev x (a.getD 0 [])/ev x am,gR⟩;rw[ev_mul x hd.v.nat (aY.pow _ _).nat,ev_pow x h.em.v.nat,key x c1 c0 m e1 e0,ev_sub x (aY.mul _ _).nat (aY.mul _ _),ev_mul x (e _ _).v.nat (e _ _).v.nat,ev_mul x (e _ _).v.nat (e _ _).v.nat,BD h x,BD h x,BD h x,BD h x]
  have r:=λi z=>P8 (A:=λk j=>ev x (jq a k j)) (F:=λi j=>ev x (il a b n i j)) (am:=ev x am) (c1:=c1) (c0:=c0) (λk=>by rw[AO h]) (λk=>by
   have:=Fb (l:=a) (k:=k) (i:=1) oM;rw[la]at this
   rw[(oM:k+1=k+(2+1-1-1)),this,e1]) (λk=>by
   have:=Fb (l:=a) (k:=k) (i:=0) oM;rw[la]at this
   rw[(oM:k+2=k+(2+1-1-0)),this,e0]) (λk j G=>by rw[Qa oM,dJ]) i n z
  obtain⟨B,C,-⟩:=r n (nL _);obtain⟨D,E,-⟩:=r (n+1) oM;rw[B,C,D,E]
  have s:∀g:Nat->Rat,bF (λj=>ev x (il a b n n j)*g (n+1-j)) (n+2)=sL x (λi=>g (i+1)) b:=λg=>by rw[dO (n:=n+2) (g:=λj=>ev x (jq b 0 j)*g (n+1-j)) λj _=>by rw[U5 (nL n),Nat.sub_self],UY x h.lb,sL,h.lb]
  have y:∀g:Nat->Rat,bF (λj=>ev x (il a b n (n+1) j)*g (n+1-j)) (n+2)=sL x g b:=λg=>by rw[dO (n:=n+2) (g:=λj=>ev x (jq b 1 j)*g (n+1-j)) λj _=>by rw[U5 oM,(oM:n+1-n=1)],UZ x h.lb,sL,h.lb]
  rw[s (λi=>(gq c1 c0 i).1),s (λi=>(gq c1 c0 i).2),y (λi=>(gq c1 c0 i).1),y (λi=>(gq c1 c0 i).2)];rw[tu x (g:=λi=>(gq c1 c0 (i+1)).1) (h:=λi=>(-c1)*(gq c1 c0 i).1+1*(gq c1 c0 i).2) λi=>by simp only[gq];grind];rw[tu x (g:=λi=>(gq c1 c0 (i+1)).2) (h:=λi=>(-c0)*(gq c1 c0 i).1+0*(gq c1 c0 i).2) λi=>by simp only[gq];grind];rw[Fa,Fa];generalize sL x (λi=>(gq c1 c0 i).1) b=P;generalize sL x (λi=>(gq c1 c0 i).2) b=S;generalize ev x am^n=W;unfold pF;grind
 intro x;have:=congrArg (ev x) eq;rw[ev_mul x hd.v.nat (aY.pow _ _).nat,ev_pow x h.em.v.nat,ev_sub x (aY.mul _ _).nat (aY.mul _ _),ev_mul x (e _ _).v.nat (e _ _).v.nat,ev_mul x (e _ _).v.nat (e _ _).v.nat]at this;exact this
end
end Q
end
