/- The members of a remainder sequence are small. No program in sight. Where the sizes do, the greatest common divisor answers. No program in sight. The reference's Div of rational numbers. The reference's Div of polynomials: what a run asks; the contract. Exact divisions: their runs. -/
import Derived.Test.YtopclbeomcggiaaGreatE02
import Derived.Test.YtopclbeomcggiaaGreatE04
import Derived.Test.YtopclbeomcggiaaGreatE20
import Derived.Test.YtopclbeomcggiaaGreatE31
import Derived.Test.YtopclbeomcggiaaGreatE34
set_option linter.unusedVariables false
set_option linter.unusedSimpArgs false
set_option maxHeartbeats 16000000
set_option maxRecDepth 100000
section
namespace Q
open MP Go.Proofs.YtopclbeomcggiaaGreat
theorem prim_dvd_any {v:Nat} (hv:v<4) {z k f:MP} (lz:z.lo (v+1)) (pz:z.prim v) (hk:k.lo v) (k0:k≠0) (h:z∣k*f):z∣f:=by
 have key:∀ n:Nat,v+1+n<=4->∀ f:MP,f.lo (v+1+n)->z∣k*f->z∣f:=fun n=>by
  induction n with
 |zero=>intro _ f lf h;exact prim_dvd_of (hasGcd v (by omega)) hv lf pz hk k0 h
 |succ n ih =>
   intro hn f lf h;have hfr:z.fr (v+1+n):=lz _ (by omega) (by omega);have hkf:k.fr (v+1+n):=hk _ (by omega) (by omega);refine (dvd_iff_co hfr f).2 fun i=>ih (by omega) _ (lo_co (by omega) lf) ?_;have:=(dvd_iff_co hfr (k*f)).1 h i;rwa [co_mul_fr hkf] at this
 have e:v+1+(3-v)=4:=by omega
 exact key (3-v) (by omega) f (by rw [e];exact lo4 f) h
theorem siegel_num {u U v R d la xi H X b l2:Nat} (hu:1<=u) (huU:u<=U) (hR:0<R) (hH:H<=2 ^ b) (h2:2*U*R ^ v<=2 ^ l2) (hla:la=l2+b) (hX:X=2 ^ xi-1)
  (hc:(la+xi)*((U-1)*(R+d) ^ v)<xi*(U*R ^ v)) :
  (2*(u*R ^ v*(X*H))+1) ^ ((u-1)*(R+d) ^ v)<(X+1) ^ (u*R ^ v)/\u*R ^ v*(X*H)<=2 ^ (la+xi):=by
 have hx1:0<2 ^ xi:=Nat.pow_pos (by omega);have hX1:X+1=2 ^ xi:=by omega
 have h3:2*(u*R ^ v)*H<=2 ^ la:=by
  rw [hla,Nat.pow_add];refine Nat.mul_le_mul (Nat.le_trans ?_ h2) hH;rw [Nat.mul_assoc 2 U];exact Nat.mul_le_mul_left 2 (Nat.mul_le_mul_right _ huU)
 have h4:2*(u*R ^ v*(X*H))+1<=2 ^ (la+xi):=by
  have e1:2*(u*R ^ v*(X*H))=2*(u*R ^ v)*H*X:=by
   rw [Nat.mul_comm X H,<- Nat.mul_assoc,<- Nat.mul_assoc,<- Nat.mul_assoc]
  have h5:=Nat.mul_le_mul_right X h3;have h6:2 ^ la*X+2 ^ la=2 ^ (la+xi):=by rw [Nat.pow_add,<- hX1,Nat.mul_add,Nat.mul_one]
  have h7:0<2 ^ la:=Nat.pow_pos (by omega);rw [e1];omega
 refine⟨?_,by omega⟩
 have h5:(2*(u*R ^ v*(X*H))+1) ^ ((u-1)*(R+d) ^ v)<=2 ^ ((la+xi)*((u-1)*(R+d) ^ v)):=by
  have e:2 ^ ((la+xi)*((u-1)*(R+d) ^ v))=(2 ^ (la+xi)) ^ ((u-1)*(R+d) ^ v):=Nat.pow_mul ..;rw [e];exact Nat.pow_le_pow_left h4 _
 refine Nat.lt_of_le_of_lt h5 ?_;rw [hX1,<- Nat.pow_mul];refine Nat.pow_lt_pow_right (by omega) ?_
 have h6:(u-1)*U<=u*(U-1):=by
  rw [Nat.sub_mul,Nat.mul_sub,Nat.one_mul,Nat.mul_one];omega
 have hU:0<U:=by omega
 refine Nat.lt_of_mul_lt_mul_right (a:=U) ?_
 have h7:(la+xi)*((u-1)*(R+d) ^ v)*U<=u*((la+xi)*((U-1)*(R+d) ^ v)):=by
  have e1:(la+xi)*((u-1)*(R+d) ^ v)*U=(la+xi)*(R+d) ^ v*((u-1)*U):=by
   simp only [Nat.mul_comm,Nat.mul_left_comm,Nat.mul_assoc]
  have e2:u*((la+xi)*((U-1)*(R+d) ^ v))=(la+xi)*(R+d) ^ v*(u*(U-1)):=by
   simp only [Nat.mul_comm,Nat.mul_left_comm,Nat.mul_assoc]
  rw [e1,e2];exact Nat.mul_le_mul_left _ h6
 have h8:u*((la+xi)*((U-1)*(R+d) ^ v))<u*(xi*(U*R ^ v)):=Nat.mul_lt_mul_of_pos_left hc hu;have e3:u*(xi*(U*R ^ v))=xi*(u*R ^ v)*U:=by simp only [Nat.mul_comm,Nat.mul_left_comm,Nat.mul_assoc]
 rw [<- e3];omega
theorem member_size {v M d b R la xi l2 kap U:Nat} (hv:v<4) {p q x y z k t e:MP} (h:Sq v p q x y) (y0:y≠0) (k0:k≠0) (kf:k.lo v) (e0:e≠0) (ef:e.fr v) (hst:k*x=t*y+e*z) (hlt:z.deg v<y.deg v) (z0:z≠0) (pz:z.prim v) (lz:z.lo (v+1))
  (p0:p≠0) (q0:q≠0) (lp:p.lo (v+1)) (lq:q.lo (v+1)) (hp:∀ w,w<v->p.deg w<=d) (hq:∀ w,w<v->q.deg w<=d) (ip:In b p) (iq:In b q) (hm:p.deg v<=M) (hn:q.deg v<=M) (hyp:y.deg v<=p.deg v) (hyq:y.deg v<=q.deg v)
  (hU:2*(M:Int)+2<=U+2*y.deg v) (hR:0<R) (h2:2*U*R ^ v<=2 ^ l2) (hla:la=l2+b) (hc:(la+xi)*((U-1)*(R+d) ^ v)<xi*(U*R ^ v)) (hk:facK (bxf v (R-1+d) M) (v+1)<=2 ^ kap) :
  (∀ w,w<v->z.deg w<=((U*d:Nat):Int))/\In (la+xi+kap) (nrm z):=by
 have hz1:=deg_pos z0 v;obtain⟨m,em⟩:∃ m:Nat,p.deg v=m:=⟨(p.deg v).toNat,by omega⟩;obtain⟨n,en⟩:∃ n:Nat,q.deg v=n:=⟨(q.deg v).toNat,by omega⟩;obtain⟨K,eK⟩:∃ K:Nat,y.deg v=(K:Int)+1:=⟨(y.deg v).toNat - 1,by omega⟩;have hu:1<=m+n - 2*K:=by omega
 have huU:m+n-2*K<=U:=by omega
 refine⟨fun w hw=>?_,?_⟩
 ·obtain⟨S,T,hne,hS,hfv,hfw⟩:=small_comb (v:=v) (w:=w) hv (by omega) (by omega) (m:=m) (n:=n) (k:=K) (by omega) (by omega) (by omega) (by omega) (hp w hw) (hq w hw);obtain⟨f0,c',c0,cl,hd⟩:=h.dvd hv y0 k0 kf e0 ef hst hlt z0 (f:=S*p+T*q) (K:=(K:Int)) rfl hfv (.inr (by omega)) hne (by omega) (by omega);have h3:=dvd_deg f0 (prim_dvd_any hv lz pz cl c0 hd) w;have h4:(m+n - 2*K)*d<=U*d:=Nat.mul_le_mul_right _ huU;omega
 ·obtain⟨Dp,Hp,a1,a2,a3,a4⟩:=ip;obtain⟨Dq,Hq,b1,b2,b3,b4⟩:=iq;have dp0:(Dp:Rat)≠0:=nat_ne a1;have dq0:(Dq:Rat)≠0:=nat_ne b1
  have hap:(c (Dp:Rat)*p).am<=((2 ^ b:Nat):Rat):=by
   rw [am_cmul,rabs_of_pos (nr_nonneg _)];exact Rat.le_trans a4.a (nr_le a3)
  have haq:(c (Dq:Rat)*q).am<=((2 ^ b:Nat):Rat):=by
   rw [am_cmul,rabs_of_pos (nr_nonneg _)];exact Rat.le_trans b4.a (nr_le b3)
  obtain⟨X,hX⟩:∃ X,X=2 ^ xi - 1:=⟨_,rfl⟩;obtain⟨n1,n2⟩:=siegel_num (d:=d) hu huU hR (Nat.le_refl (2 ^ b)) h2 hla hX hc;have lP:(c (Dp:Rat)*p).lo (v+1):=lo_dvd p0 (cmul_dvd dp0 p).1 lp;have lQ:(c (Dq:Rat)*q).lo (v+1):=lo_dvd q0 (cmul_dvd dq0 q).1 lq
  obtain⟨S,T,hne,hS,hfv,hfw,hfd,hfa,hfl⟩:=siegel_comb hv lP lQ (dv_clear a4.d) (dv_clear b4.d) (m:=m) (n:=n) (k:=K) (d:=d) (by rw [deg_cmul dp0 p0];omega) (by rw [deg_cmul dq0 q0];omega) (by omega) (by omega)
   (fun w hw=>by rw [deg_cmul dp0 p0];exact hp w hw) (fun w hw=>by rw [deg_cmul dq0 q0];exact hq w hw) hap haq hR n1
  have hcomb:S*(c (Dp:Rat)*p)+T*(c (Dq:Rat)*q)=(S*c (Dp:Rat))*p+(T*c (Dq:Rat))*q:=by grind
  have hS':(S*c (Dp:Rat)).deg v<=S.deg v:=by
   have h5:(c (Dp:Rat)).deg v<=0:=fr_c _ v;have:=deg_mul_le v S (c (Dp:Rat)) (Int.le_refl _) h5 (by have:=deg_ge v S;omega);omega
  have hne':S*c (Dp:Rat)≠0\/T*c (Dq:Rat)≠0:=hne.imp (fun h=>mul_ne h (c_ne dp0)) fun h=>mul_ne h (c_ne dq0);obtain⟨f,hf⟩:∃ f,f=S*(c (Dp:Rat)*p)+T*(c (Dq:Rat)*q):=⟨_,rfl⟩;rw [<- hf] at hfv hfw hfd hfa hfl hcomb;obtain⟨f0,c',c0,cl,hd⟩:=h.dvd hv y0 k0 kf e0 ef hst hlt z0 (f:=f) (K:=(K:Int)) hcomb hfv (.inr (by omega)) hne' (by omega) (by omega);have hzf:=prim_dvd_any hv lz pz cl c0 hd
  have hif:In (la+xi) f:=by
   refine⟨1,_,by omega,Nat.one_le_two_pow,n2,hfd,?_⟩;rw [show ((1:Nat):Rat)=1 from rfl,Rat.one_mul];exact hfa
  exact hif.fac (n:=v+1) (by omega) f0 hzf hfl (dg_bxf hfl hfw (by omega)) hk
structure LvD where
 M:Nat
 d:Nat
 b:Nat
 E:Nat
 br:Nat
 kE:Nat
 k0:Nat
 lM:Nat
 P:Nat
 R:Nat->Nat
 l2:Nat->Nat
 xi:Nat->Nat
 kap:Nat->Nat
namespace LvD
def bE (L:LvD):Nat:=L.br+L.kE
def cz (L:LvD) (v x:Nat):Nat:=if v=0 then 0 else x+L.kE
def b1 (L:LvD) (v:Nat):Nat:=if v=0 then L.b else L.b+(L.b+L.k0)
def mu (L:LvD) (v U:Nat):Nat:=if U=1 then L.b1 v else L.l2 U+L.b1 v+L.xi U+L.kap U
def U (L:LvD) (k:Nat):Nat:=2*L.M+2-2*k
end LvD
structure LvOk (v:Nat) (L:LvD):Prop where
 hv:v<4
 hlM:L.M<=2 ^ L.lM
 k0:facK (bxf v L.d L.M) (v+1)<=2 ^ L.k0
 kE:facK (bxf v L.E 0) v<=2 ^ L.kE
 mono:∀ U,U<2*L.M->1<=U->L.mu v U<=L.mu v (U+1)
 sg:∀ U,U<2*L.M+1->2<=U->0<L.R U/\2*U*L.R U ^ v<=2 ^ L.l2 U/\(L.l2 U+L.b1 v+L.xi U)*((U-1)*(L.R U+L.d) ^ v)<L.xi U*(U*L.R U ^ v)/\facK (bxf v (L.R U-1+L.d) L.M) (v+1)<=2 ^ L.kap U
 p1:(L.M+1)*(1*L.d)<=L.P/\(L.M+1)*(L.b1 v+1)+L.lM<LB
 pk:∀ k,k<L.M+1->2<=k->(k+1)*(L.U k*L.d)<=L.P/\(k+1)*(L.mu v (L.U k)+1)+L.lM<LB
 bP:(L.M+1)*(L.P+1) ^ v<=10000
 e1:L.M*(1*L.d)<=L.E/\L.M*(L.b1 v+1)+L.lM<=L.br
 ek:∀ k,k<L.M+1->3<=k->k*(L.U k*L.d)<=L.E/\k*(L.mu v (L.U k)+1)+L.lM<=L.br
 dE:L.d<=L.E/\L.b<=L.br/\L.E<=L.P/\1<=L.M
 x1:L.br+L.mu v (2*L.M)+L.cz v L.br<LB
 x2:L.b1 v+L.cz v L.b<LB
 dv:bx (wbx v L.d (wtM v L.d L.M))<=10000/\L.b1 v+L.b1 v+(bx (wbx v L.d (wtM v L.d L.M))+1)*(L.b1 v+1)<LB
 fin:L.bE+L.mu v (2*L.M)<LB
 fl:L.M+1<fuel
def Gex (d:Nat->Nat) (b:Nat) (G:List Trm->List Trm->Option (List Trm)):Prop:=∀ x y:MP,Dg d x->Dg d y->In b x->In b y->∃ r,G x.l y.l=some r
theorem nrm_one {g:MP} (h:hd g=1):nrm g=g:=by
 rw [nrm,h,show (1:Rat) / 1=1 by decide +kernel,c_one];grind
theorem div_size {v:Nat} {L:LvD} (h:LvOk v L) {x:Nat} {g f:MP} (hg:hd g=1) (f0:f≠0) (hd:g∣f) (df:Dg (bxf v L.E 0) f) (hi:In x f):Dg (bxf v L.E 0) g/\In (L.cz v x) g:=by
 have hv:=h.hv;refine⟨df.dvd f0 hd,?_⟩;unfold LvD.cz;split
 ·rename_i e;subst e;obtain⟨r,rfl⟩:=const_of (lo_dvd f0 hd df.lo0);have hr:r≠0:=fun e=>by rw [e,c_zero] at hg;cases hg
  have h1:=hd_cmul hr 1;have h2:c r*1=c r:=by grind
  rw [h2,hg,hd_one,Rat.one_mul] at h1;rw [<- h1,c_one];exact In.one 0
 ·have:=hi.fac (n:=v) (by omega) f0 hd df.lo0 df h.kE;rwa [nrm_one hg] at this
theorem cz_le {v:Nat} {L:LvD} {x:Nat} (hx:x<=L.br):L.cz v x<=L.bE:=by
 unfold LvD.cz LvD.bE;split <;> omega
def RwOk (v:Nat) (L:LvD) (x:Nat) (l:List Trm):Prop:=∃ f:MP,f.l=l/\Dg (bxf v L.E 0) f/\In x f
theorem allO_ex {v x:Nat} {L:LvD} (h:LvOk v L) (hx:x<=L.br) {G:List Trm->List Trm->Option (List Trm)} (hG:Gok G) (hX:Gex (bxf v L.E 0) L.bE G):∀ (l:List (List Trm)) (acc:MP),(∀ c∈l,RwOk v L x c) ->
  (acc=0\/(hd acc=1/\∃ f:MP,f≠0/\acc∣f/\Dg (bxf v L.E 0) f/\In x f))->∃ r,allO G acc.l l=some r
|[],acc,_,_=>⟨_,rfl⟩
|c::l,acc,hl,ha=>by
  obtain⟨f,rfl,df,hf⟩:=hl c (by simp)
  have hacc:Dg (bxf v L.E 0) acc/\In L.bE acc:=by
   rcases ha with e|⟨h1,f',f0,h2,h3,h4⟩
   ·rw [e];exact⟨fun w _=>by rw [deg_zero];omega,In.zero _⟩
   ·obtain⟨a1,a2⟩:=div_size h h1 f0 h2 h3 h4;exact⟨a1,a2.mono (cz_le hx)⟩
  obtain⟨r,hr⟩:=hX acc f hacc.1 df hacc.2 (hf.mono (by unfold LvD.bE;omega));obtain⟨g,rfl,hg⟩:=hG acc f r hr;rw [allO,hr];simp only;split
  ·exact⟨_,rfl⟩
  ·refine allO_ex h hx hG hX l g (fun c hc=>hl c (by simp [hc])) ?_;by_cases g0:g=0
   ·exact .inl g0
   ·refine .inr ⟨hg.n g0,?_⟩;by_cases f0:f=0
    ·rcases ha with e|⟨-,f',h0,h2,h3,h4⟩
     ·exact absurd (zero_dvd (hg.i.u 0 (by rw [e];exact dvd_refl 0) (by rw [f0];exact dvd_refl 0))) g0
     ·exact⟨f',h0,dvd_trans hg.i.l h2,h3,h4⟩
    ·exact⟨f,f0,hg.i.r,df,hf⟩
theorem co_row {v x:Nat} {L:LvD} (h:LvOk v L) {a:MP} (la:a.lo (v+1)) (ha:∀ w,w<v->a.deg w<=L.E) (ia:In x a) (n:Nat):Dg (bxf v L.E 0) (a.co v n)/\In x (a.co v n):=by
 refine⟨fun w hw=>?_,ia.co v n⟩;unfold bxf;split
 ·exact co_deg_lt v n a hw h.hv (ha w (by assumption))
 ·have h1:(a.co v n).deg w<=0:=lo_co h.hv la w (by omega) hw;split <;> exact h1
theorem contO_ex {v x:Nat} {L:LvD} (h:LvOk v L) (hx:x<=L.br) {G:List Trm->List Trm->Option (List Trm)} (hG:Gok G) (hX:Gex (bxf v L.E 0) L.bE G) {a:MP} (la:a.lo (v+1)) (ha:∀ w,w<v->a.deg w<=L.E) (ia:In x a) :
  ∃ g:MP,contO G a.l v=some g.l/\IsCont v g a/\(g≠0->hd g=1)/\(a≠0->Dg (bxf v L.E 0) g/\In (L.cz v x) g):=by
 obtain⟨r,hr⟩:=allO_ex h hx hG hX (coeffsP a.l v) 0 (fun c hc=>by
  obtain⟨n,e⟩:=mem_coeffsP hc;obtain⟨h1,h2⟩:=co_row h la ha ia n
  exact⟨a.co v n,e.symm,h1,h2⟩) (.inl rfl)
 obtain⟨g,rfl,hg,hn⟩:=contO_ok hG (a:=a) (v:=v) hr;refine⟨g,hr,hg,hn,fun a0=>?_⟩;have g0:=dvd_ne a0 hg.d;obtain⟨h1,h2⟩:=co_row h la ha ia (a.deg v).toNat;exact div_size h (hn g0) (lc_ne a0 v) ((dvd_iff_co hg.f a).1 hg.d _) h1 h2
theorem mu_mono {v:Nat} {L:LvD} (h:LvOk v L) {U:Nat} (h1:1<=U):∀ k:Nat,U+k<=2*L.M->L.mu v U<=L.mu v (U+k)
|0,_=>Nat.le_refl _
|k+1,hk=>Nat.le_trans (mu_mono h h1 k (by omega)) (h.mono (U+k) (by omega) (by omega))
theorem mu_le {v:Nat} {L:LvD} (h:LvOk v L) {U U':Nat} (h1:1<=U) (h2:U<=U') (h3:U'<=2*L.M):L.mu v U<=L.mu v U':=by
 have:=mu_mono h h1 (U' - U) (by omega);rwa [show U+(U' - U)=U' by omega] at this
theorem seqGo_ex {v:Nat} {L:LvD} (h:LvOk v L) {G:List Trm->List Trm->Option (List Trm)} (hG:Gok G) (hX:Gex (bxf v L.E 0) L.bE G)
  {p q:MP} (p0:p≠0) (q0:q≠0) (lp:p.lo (v+1)) (lq:q.lo (v+1)) (hp:∀ w,w<v->p.deg w<=L.d) (hq:∀ w,w<v->q.deg w<=L.d) (ip:In (L.b1 v) p) (iq:In (L.b1 v) q) (hm:p.deg v<=L.M) (hn:q.deg v<=L.M) :
  ∀ (n:Nat) (x y:MP) (U:Nat),y.deg v<n->Sq v p q x y->x.prim v->y.prim v->x.lo (v+1)->y.lo (v+1)->(∀ w,w<v->x.deg w<=((U*L.d:Nat):Int))->(∀ w,w<v->y.deg w<=((U*L.d:Nat):Int))->In (L.mu v U) x->In (L.mu v U) y ->
   1<=U->U<=2*L.M->(U=1\/((U:Int)+2*x.deg v=2*(L.M:Int)+2/\y.deg v<x.deg v))->1<=y.deg v->y.deg v<=x.deg v->x.deg v<=L.M->y.deg v<=p.deg v->y.deg v<=q.deg v ->
   ∃ s:MP,seqGo G v n x.l y.l=some s.l/\In (L.mu v (2*L.M)) s
|0,x,y,U,hlt,_,_,_,_,_,_,_,_,_,_,_,_,h1,_,_,_,_=>by omega
|n+1,x,y,U,hlt,hS,px,py,lx,ly,dx,dy,ix,iy,hU1,hU2,hUc,hy1,hyx,hxM,hyp,hyq=>by
  have hv:=h.hv;have y0:=prim_ne py;have x0:=prim_ne px;obtain⟨k,hk⟩:∃ k:Nat,x.deg v=k:=⟨(x.deg v).toNat,by omega⟩;obtain⟨j,hj⟩:∃ j:Nat,y.deg v=j:=⟨(y.deg v).toNat,by omega⟩
  have hps:(k-j+1+1)*(U*L.d)<=L.P/\(k-j+1+1)*(L.mu v U+1)+L.lM<LB:=by
   rcases hUc with e|⟨e,hlt'⟩
   ·subst e;have h1:=h.p1;have h2:=Nat.mul_le_mul_right (1*L.d) (show k-j+1+1<=L.M+1 by omega);have h3:=Nat.mul_le_mul_right (L.mu v 1+1) (show k-j+1+1<=L.M+1 by omega);have h4:L.mu v 1=L.b1 v:=if_pos rfl;rw [h4] at h3 ⊢;omega
   ·have h1:=h.pk k (by omega) (by omega);have e2:L.U k=U:=by unfold LvD.U;omega
    rw [e2] at h1;have h2:=Nat.mul_le_mul_right (U*L.d) (show k-j+1+1<=k+1 by omega);have h3:=Nat.mul_le_mul_right (L.mu v U+1) (show k-j+1+1<=k+1 by omega);omega
  obtain⟨r1,r2,r3,r4,r5⟩:=prem_size (M:=L.M) (s:=k - j+1) (lM:=L.lM) hv y0 lx ly dx dy ix iy (by omega) (by omega) h.hlM
   (Nat.le_trans (Nat.mul_le_mul_left _ (Nat.pow_le_pow_left (by have:=hps.1;omega) v)) h.bP) hps.2
  obtain⟨t,s',est,hrd⟩:=prem_spec (a:=x) y0 v;obtain⟨r,hr⟩:∃ r,r=prem v x y:=⟨_,rfl⟩;rw [<- hr] at r1 r2 r3 r4 r5 est hrd;rw [seqGo,r1];have hmuY:L.mu v U<=L.mu v (2*L.M):=mu_le h hU1 hU2 (Nat.le_refl _)
  cases er:r.l with
 |nil=>exact⟨y,rfl,iy.mono hmuY⟩
 |cons a l =>
   simp only;have rn0:r≠0:=fun e=>by rw [zero_iff.1 e] at er;cases er
   split
   ·exact⟨1,by rw [oneP_eq],In.one _⟩
   ·rename_i hd0
    have hrdeg:1<=r.deg v:=by
     have h1:=deg_pos rn0 v;have h2:r.deg v≠0:=by show degP r.l v≠0;rw [er];exact hd0
     omega
    have hpe:(k-j+1+1)*(U*L.d)<=L.E/\(k-j+1+1)*(L.mu v U+1)+L.lM<=L.br:=by
     rcases hUc with e|⟨e,hlt'⟩
     ·subst e;have h1:=h.e1;have h2:=Nat.mul_le_mul_right (1*L.d) (show k-j+1+1<=L.M by omega);have h3:=Nat.mul_le_mul_right (L.mu v 1+1) (show k-j+1+1<=L.M by omega);have h4:L.mu v 1=L.b1 v:=if_pos rfl;rw [h4] at h3 ⊢;omega
     ·have h1:=h.ek k (by omega) (by omega);have e2:L.U k=U:=by unfold LvD.U;omega
      rw [e2] at h1;have h2:=Nat.mul_le_mul_right (U*L.d) (show k-j+1+1<=k by omega);have h3:=Nat.mul_le_mul_right (L.mu v U+1) (show k-j+1+1<=k by omega);omega
    have hrE:∀ w,w<v->r.deg w<=L.E:=fun w hw=>by have:=r3 w hw;have:=hpe.1;omega
    have hrb:In L.br r:=r2.mono hpe.2;obtain⟨g,c1,c2,c3,c4⟩:=contO_ex h (Nat.le_refl _) hG hX r5 hrE hrb;obtain⟨c5,c6⟩:=c4 rn0;obtain⟨ρ,eρ,pρ,g0⟩:=cont_prim c2 rn0;have ρ0:=prim_ne pρ;have lρ:ρ.lo (v+1):=lo_of_eq g0 ρ0 eρ r5;have hgd:g.deg v=0:=fr_deg c2.f g0;have hρd:ρ.deg v=r.deg v:=by rw [eρ,deg_mul g0 ρ0,hgd];omega
    have hj2:2<=j:=by omega
    have hU':2<=L.U j/\L.U j<=2*L.M:=by unfold LvD.U;omega
    have hUj:((L.U j:Nat):Int)+2*y.deg v=2*(L.M:Int)+2:=by rw [hj];unfold LvD.U;omega
    obtain⟨s1,s2,s3,s4⟩:=h.sg (L.U j) (by omega) hU'.1;have hlc:=lc_pow_lo hv ly s';have hlc0:=pow_ne (lc_ne y0 v) s';have hst:(y.lc v) ^ s'*x=t*y+g*ρ:=by rw [<- eρ];exact est
    obtain⟨m1,m2⟩:=member_size hv hS y0 hlc0 hlc g0 c2.f hst (by omega) ρ0 pρ lρ p0 q0 lp lq hp hq ip iq hm hn hyp hyq (by omega) s1 s2 rfl s3 s4;have emu:L.l2 (L.U j)+L.b1 v+L.xi (L.U j)+L.kap (L.U j)=L.mu v (L.U j):=by rw [LvD.mu,if_neg (by omega)]
    rw [emu] at m2;have hmu2:L.mu v (L.U j)<=L.mu v (2*L.M):=mu_le h (by omega) hU'.2 (Nat.le_refl _)
    have hiρ:In (L.br+L.mu v (L.U j)) ρ:=by
     have e1:hd r=hd ρ:=by rw [eρ,hd_mul g0 ρ0,c3 g0,Rat.one_mul]
     have h2:=(hrb.hd rn0).mul m2;rwa [e1,<- nrm_back ρ0] at h2
    have hx1:=h.x1
    have hbE:bx (bxf v L.E L.M)<=10000:=by
     rw [bxf_bx hv];exact Nat.le_trans (Nat.mul_le_mul_left _ (Nat.pow_le_pow_left (by have:=h.dE.2.2.1;omega) v)) h.bP
    have hdr:Dg (bxf v L.E L.M) r:=dg_bxf r5 hrE (by omega);have hov:=overO_ex g0 (eρ.trans (mul_cm g ρ)) hdr hbE hiρ c6 (by omega);have hdρ:Dg (bxf v L.E L.M) ρ:=hdr.dvd rn0 ⟨g,eρ.trans (mul_cm g ρ)⟩;have hno:=normO_ex hdρ hiρ hbE (by omega)
    have hpo:primO G (a::l) v=some ρ.l:=by
     rw [er] at hov c1;rw [primO];simp only [c1];exact hov
    have hNρ:nrm ρ≠0:=nrm_ne ρ0
    have hNd:∀ w,(nrm ρ).deg w=ρ.deg w:=fun w=>by
     have h1:=dvd_deg ρ0 (nrm_dvd ρ0).1 w;have h2:=dvd_deg hNρ (nrm_dvd ρ0).2 w;omega
    have hhd:=hd_ne ρ0
    have hSn:Sq v p q y (nrm ρ):=by
     refine hS.step y0 hlc0 hlc (e:=g*c (hd ρ)) (mul_ne g0 (c_ne hhd)) (fr_mul c2.f (fr_c _ v)) (t:=t) ?_ (by rw [hNd];omega);rw [hst];have h1:g*c (hd ρ)*nrm ρ=g*(c (hd ρ)*nrm ρ):=by grind
     rw [h1,<- nrm_back ρ0]
    obtain⟨s,hs1,hs2⟩:=seqGo_ex h hG hX p0 q0 lp lq hp hq ip iq hm hn n y (nrm ρ) (L.U j) (by rw [hNd];omega) hSn py (prim_dvd pρ (nrm_dvd ρ0).1) ly (nrm_lo lρ)
     (fun w hw=>by
      have h1:=dy w hw;have h2:U*L.d<=L.U j*L.d:=Nat.mul_le_mul_right _ (by rcases hUc with e|⟨e,_⟩ <;> omega)
      omega)
     (fun w hw=>by rw [hNd];exact m1 w hw) (iy.mono (mu_le h hU1 (by rcases hUc with e|⟨e,_⟩ <;> omega) hU'.2)) m2 (by omega) hU'.2 (.inr ⟨hUj,by rw [hNd];omega⟩) (by rw [hNd];omega) (by rw [hNd];omega) (by omega) (by rw [hNd];omega) (by rw [hNd];omega)
    refine⟨s,?_,hs2⟩;rw [hpo];simp only;rw [hno];exact hs1
end Q
end
section
namespace Go.Proofs.YtopclbeomcggiaaGreat
open Go.RowKit Q Go.WideMaps Go.Maps
theorem div2_any (v1 v2:Value) (p q:Rat) (w:World) (h1:IsRat w v1 p) (h2:IsRat w v2 q) (k1:Rs p) (k2:Rs q) (hz:q≠0) (hf:Fits ((p.den:Int)*q.num)) :
  Calls Tryz.prog 71 #[v1,v2] w (RetRatE w (p / q) 0):=by
 rw [<- divInt_div];obtain⟨s1,a1,l1,c1,s2,a2,l2,c2,rfl,i1,i2⟩:=h1;obtain⟨s3,a3,l3,c3,s4,a4,l4,c4,rfl,i3,i4⟩:=h2
 have dz:(p.den:Int)*q.num≠0:=by
  intro h;rcases Int.mul_eq_zero.1 h with h|h
  ·have:=p.den_nz;omega
  ·exact hz (Rat.num_eq_zero.1 h)
 have db:nbits ((p.den:Int)*q.num).natAbs<=CS / 4:=by
  have:=nbits_le (n:=((p.den:Int)*q.num).natAbs) (k:=32) (by unfold Fits at hf;omega);unfold CS;omega
 have sb:nbits (p.num*(q.den:Int)).natAbs<=CS / 4:=by
  have h1:=nbits_mul p.num.natAbs (q.den:Int).natAbs;have h2:=k1.2;have h3:=nbits_le (n:=(q.den:Int).natAbs) (k:=16) (by have:=k2.1;omega);rw [Int.natAbs_mul];unfold CS at *;omega
 go_enter Tryz.func71,Tryz.ntmps71
 go_upto_region 1 with (fail)
 refine abs3 fun W hb0 B1 B2 B3 hsz=>?_;replace i1:=i1.on hb0;replace i2:=i2.on hb0;replace i3:=i3.on hb0;replace i4:=i4.on hb0;refine wp_region_L mixed (none) (0) (Okr.none) [.eq (.pointer (some ⟨w.heap.size,0,none⟩)),.eq (.agg #[.bool s1,.slice a1 l1 c1]),.eq (.pointer (some ⟨w.heap.size+1,2,none⟩)),.eq (.agg #[.bool s4,.slice a4 l4 c4]),.int (by decide) ((p.num*(q.den:Int))),.eq (.pointer (some ⟨w.heap.size,2,none⟩)),.eq (.agg #[.bool s2,.slice a2 l2 c2]),.eq (.pointer (some ⟨w.heap.size+1,0,none⟩)),.eq (.agg #[.bool s3,.slice a3 l3 c3]),.int (by decide) (((p.den:Int)*q.num)),.ratE (by decide) (Rat.divInt (p.num*(q.den:Int)) ((p.den:Int)*q.num)) 0,.rat (by decide) (Rat.divInt (p.num*(q.den:Int)) ((p.den:Int)*q.num)),.eq (.int .i64 0)] [6,7,8,9,10,11,12,13,14,15,16,17,18] rfl rfl rfl rfl ⟨?_,?_,?_,?_,?_,?_,?_,?_,?_,?_,?_,?_,?_,trivial⟩ ?_
 ·intro A w1 hA hL hS he;have h2:A.eval (.tmp 2)=.pointer (some ⟨w.heap.size,0,none⟩):=hA 2 rfl;exact pZ rfl
 ·intro A w1 hA hL hS he;have hb:=hL.below;have h6:=eT 6 (he.1 rfl);have c0:=((B1).on hb).at1 0 _ rfl;have c1:=((B1).on hb).at1 1 _ rfl;exact pZ rfl
 ·intro A w1 hA hL hS he;have h3:A.eval (.tmp 3)=.pointer (some ⟨w.heap.size+1,0,none⟩):=hA 3 rfl;exact pZ rfl
 ·intro A w1 hA hL hS he;have hb:=hL.below;have h8:=eT 8 (he.1 rfl);have c0:=((B2).on hb).at1 2 _ rfl;have c1:=((B2).on hb).at1 3 _ rfl;exact pZ rfl
 ·intro A w1 hA hL hS he;have hb:=hS rfl;have h7:=eT 7 (he.1 rfl);have h9:=eT 9 (he.2.1 rfl);have hf0:=eF A 105;exact cP (f:=105) (args:=#[.agg #[.bool s1,.slice a1 l1 c1],.agg #[.bool s4,.slice a4 l4 c4]]) (mul1_any _ _ _ _ _ _ _ (i1.on hb) (i4.on hb) (cs4 k1.num) (cs4 k2.den))
 ·intro A w1 hA hL hS he;have h2:A.eval (.tmp 2)=.pointer (some ⟨w.heap.size,0,none⟩):=hA 2 rfl;exact pZ rfl
 ·intro A w1 hA hL hS he;have hb:=hL.below;have h11:=eT 11 (he.1 rfl);have c0:=((B1).on hb).at1 2 _ rfl;have c1:=((B1).on hb).at1 3 _ rfl;exact pZ rfl
 ·intro A w1 hA hL hS he;have h3:A.eval (.tmp 3)=.pointer (some ⟨w.heap.size+1,0,none⟩):=hA 3 rfl;exact pZ rfl
 ·intro A w1 hA hL hS he;have hb:=hL.below;have h13:=eT 13 (he.1 rfl);have c0:=((B2).on hb).at1 0 _ rfl;have c1:=((B2).on hb).at1 1 _ rfl;exact pZ rfl
 ·intro A w1 hA hL hS he;have hb:=hS rfl;have h12:=eT 12 (he.1 rfl);have h14:=eT 14 (he.2.1 rfl);have hf0:=eF A 105;exact cP (f:=105) (args:=#[.agg #[.bool s2,.slice a2 l2 c2],.agg #[.bool s3,.slice a3 l3 c3]]) (mul1_any _ _ _ _ _ _ _ (i2.on hb) (i3.on hb) (cs4 k1.den) (cs4 k2.num))
 ·intro A w1 hA hL hS he;have hb:=hS rfl;obtain⟨v10,h10,f10⟩:=fT 10 (he.1 rfl);obtain⟨v15,h15,f15⟩:=fT 15 (he.2.1 rfl);have hf0:=eF A 104;refine goOn_plain rfl ?_;refine stepG_call (f:=104) (args:=#[v10,v15]) rfl rfl ?_ ?_
  ·exact gZ
  ·obtain⟨n10,m10,rfl,i10⟩:=f10;obtain⟨n15,m15,rfl,i15⟩:=f15;refine (of2_any _ _ _ _ _ _ _ i10 i15 sb db dz hf).mono ?_;rintro e w' ⟨x,rfl,hi,hb'⟩;exact⟨_,rfl,hb',x,rfl,hi⟩
 ·intro A w1 hA hL hS he;obtain⟨v16,h16,f16⟩:=fT 16 (he.1 rfl);refine goOn_plain rfl ?_;obtain⟨x,rfl,hx⟩:=f16;refine stepG_value (c:=x) rfl rfl (Below.refl _ _) hx ?_;exact gZ
 ·intro A w1 hA hL hS he;obtain⟨v16,h16,f16⟩:=fT 16 (he.1 rfl);refine goOn_plain rfl ?_;obtain⟨x,rfl,hx⟩:=f16;exact stepG_pure rfl rfl gZ
 ·intro w4 hL4;have hb4:=hL4.below;simp only [TailL,FactL.eq,FactL.int,FactL.rat,FactL.ratE,FactL.of,lZ];rintro _ - _ - _ - v17 h17;obtain⟨t1,b1,g1,d1,t2,b2,g2,d2,rfl,u1,u2⟩:=h17;go_frame;have E3:=B3.on hb4;have hbb:=hb0.trans (hb4.mono hb0.size)
  go_wp2_with (refine wpList_store_blk rfl _ (.tmp 4) (.tmp 17) rfl _ _ _ _ rfl rfl E3 rfl sizeRat isRat_ones ?_;intro w5 R gr)
  exact bodyPost_ret (results_cell1 rfl _ _ _ Tryz.underlying41 rfl rfl R sizeRat) rfl ⟨_,rfl,IsRat.stored ⟨t1,b1,g1,d1,t2,b2,g2,d2,rfl,u1,u2⟩ gr E3 (by decide),hbb.trans ((grown_below gr (Nat.le_of_lt E3.lt) (Nat.le_refl _)).mono (by omega))⟩
end Go.Proofs.YtopclbeomcggiaaGreat
end
section
namespace Q
open Go Go.Proofs.YtopclbeomcggiaaGreat
inductive RunD (sa sq:Sz) (b:List Trm) (g:Trm):Nat->List Trm->List Trm->Option (List Trm)->Prop
|done {out:List Trm}:RunD sa sq b g 0 [] out (some out)
|fail {m:Trm} {a out:List Trm}:(m.1.sub g.1).nat=false->Pk sa (m::a)->RunD sa sq b g 0 (m::a) out none
|step {n:Nat} {m:Trm} {a out:List Trm} {r:Option (List Trm)}:(m.1.sub g.1).nat=true->Pk sa (m::a)->Bd sq [quoT m g]->out.length<=100000000 ->
   RunD sa sq b g n (subP (m::a) (mulP b [quoT m g])) (out++[quoT m g]) r->RunD sa sq b g (n+1) (m::a) out r
theorem RunD.inv {sa sq:Sz} {b:List Trm} {g m:Trm} {n:Nat} {a out:List Trm} {r:Option (List Trm)} (h:RunD sa sq b g n (m::a) out r) :
  Pk sa (m::a)/\((m.1.sub g.1).nat=false->r=none)/\((m.1.sub g.1).nat=true->∃ n',n=n'+1/\Bd sq [quoT m g]/\out.length<=100000000/\RunD sa sq b g n' (subP (m::a) (mulP b [quoT m g])) (out++[quoT m g]) r):=by
 cases h with
|fail h1 h2=>exact⟨h2,fun _=>rfl,(fun h=>by rw [h1] at h;cases h)⟩
|step h1 h2 h3 h4 h5=>exact⟨h2,(fun h=>by rw [h1] at h;cases h),fun _=>⟨_,rfl,h3,h4,h5⟩⟩
theorem RunD.inv0 {sa sq:Sz} {b:List Trm} {g:Trm} {n:Nat} {out:List Trm} {r:Option (List Trm)} (h:RunD sa sq b g n [] out r):r=some out:=by cases h;rfl
structure RunB (sa sb sq:Sz) (b:List Trm) (g:Trm):Prop where
 pb:Pk sb b
 hd:∃ r,b=g::r
 oq:sq.ok
 om:(sb.mul sq).ok
 os:((sb.mul sq).mul ⟨1,1,0,1⟩).ok
 gs:sa.D*g.2.num.natAbs<4294967296
theorem RunB.ne {sa sb sq:Sz} {b:List Trm} {g:Trm} (h:RunB sa sb sq b g):g.2≠0/\g.1.nat=true:=by
 obtain⟨r,hr⟩:=h.hd;exact h.pb.v.2 g (by rw [hr];simp)
theorem times_mul {b:List Trm} {q:Trm} (hb:Vld b) (hq:Vld [q]):timesP b q=mulP b [q]:=by
 rw [timesP_prods (hq.2 q (by simp)).1,mulP];refine (canon_id ?_).symm;have:=hb.times (hq.2 q (by simp)).2;rwa [timesP_prods (hq.2 q (by simp)).1] at this
theorem fits_of {sa:Sz} {m g:Trm} {a:List Trm} (ha:Pk sa (m::a)) (hg:sa.D*g.2.num.natAbs<4294967296):Fits ((m.2.den:Int)*g.2.num):=by
 have h1:=(dv_parts ha.k.1 (ha.b.d m (by simp)) (Rat.le_trans (asum_mem (l:=m::a) (t:=m) (by simp)) ha.b.b)).1;have h2:=Nat.le_of_dvd ha.k.1 h1;unfold Fits;rw [Int.natAbs_mul,Int.natAbs_natCast];exact Nat.lt_of_le_of_lt (Nat.mul_le_mul_right _ h2) hg
theorem ir_sub {sa sb:Sz} {m g:Trm} {a b:List Trm} (ha:Pk sa (m::a)) (hb:Pk sb (g::b)):InR (m.1.sub g.1):=by
 have h1:=ha.b.e m (by simp);have h2:=hb.b.e g (by simp);have e1:=ha.k.2.2.2.1;have e2:=hb.k.2.2.2.1;refine InR.of (K:=sa.E+sb.E) (by omega) ?_;simp only [Ex.sub];omega
end Q
namespace Go.Proofs.YtopclbeomcggiaaGreat
open Go.RowKit Q Go.WideMaps Go.Maps
theorem sub7_own {s t:Sz} {vp vq:Value} {p q:List Trm} {w:World} (hP:Pk s p) (hQ:Pk t q) (k:(t.mul ⟨1,1,0,1⟩).ok) (hp:IsPoly w vp p) (hq:IsPoly w vq q):Calls Tryz.prog 35 #[vp,vq] w (RetOwn w (subP p q)):=by
 have hs:=zH (fun W u (hb:Below w.heap.size w W) (hu:IsRat W u (((-1:Int)):Rat))=>scaleK (w:=W) (vc:=u) (c:=-1) hQ rs_neg (hq.on hb) hu);have ha:=zH (fun W u (hb:Below w.heap.size w W) (hu:IsPoly W u (scaleP q (-1)))=>mergeP_eq hP.v (hQ.v.scale (-1)) ▸ add7_own vp u p _ W (hp.on hb) hu hP.rs (hQ.scale neg_pk k).rs hP.len (hQ.scale neg_pk k).len);replace hp:=zH hp;replace hq:=zH hq
 go_enter Tryz.func35,Tryz.ntmps35
 go_wp2_with (first
 |(go_at_call 24;refine (whole2_any (-1) _ (by omega) (by omega)).mono ?_;rintro en w3 ⟨v3,rfl,hv3,hb3⟩)
 |(go_at_call 42;refine (hs.out _ _ hb3 hv3).mono ?_;rintro en w4 ⟨v4,rfl,hv4,hb4⟩)
 |(go_at_call 39;refine (ha.out _ _ (hb3.trans (hb4.mono hb3.size)) hv4).mono ?_;rintro en w5 ⟨v5,rfl,hv5,hb5⟩))
 have hb34:=hb3.trans (hb4.mono hb3.size);go_ret;exact⟨_,rfl,hv5.base_mono hb34.size,hb34.trans (hb5.mono hb34.size)⟩
def subZ (m g:Ex):Nat->Ex
|0=>e0
|k+1=>(subZ m g k).put k (m.get k-g.get k)
theorem subZ_full (m g:Ex):subZ m g 4=m.sub g:=rfl
theorem nil_own {w:World} {base:Nat} (h:base<=w.heap.size):IsPoly (w.alloc (.cells #[] 43)) (.slice (some ⟨w.heap.size,0,none⟩) 0 0) []:=(own_lit0' elTerm h).isSl
theorem div7_any (vp vq:Value) (p b:List Trm) (g:Trm) (n:Nat) (r:Option (List Trm)) (sa sb sq:Sz) (w:World) (hp:IsPoly w vp p) (hq:IsPoly w vq (g::b)) (hB:RunB sa sb sq (g::b) g) (hd:RunD sa sq (g::b) g n p [] r) :
  Calls Tryz.prog 25 #[vp,vq] w (RetDivP w r):=by
 obtain⟨ap,cp,rfl,hcp⟩:=hp.shape;obtain⟨aq,cq,rfl,hcq⟩:=hq.shape;obtain⟨bq,oq,rg,rfl,hrg,hCg⟩:=cell_term hq (i:=0) (s:=g) rfl;rw [Nat.zero_mul,Nat.add_zero] at hCg;have hlg:=hrg.len;have hgz:=hB.ne;have hgs:=hB.pb.rs g (by simp);have hn1:((b.length+1:Nat):Int)≠0:=by omega
 have hn2:(((b.length+1:Nat):Int) == 0)=false:=by simp;omega
 replace hd:=zH hd;replace hB:=zH hB;replace hgz:=zH hgz;replace hgs:=zH hgs;simp only [List.length_cons] at *
 go_enter Tryz.func25,Tryz.ntmps25
 go_wp2;have hown0:=own_lit0 elTerm w;have hb0:Below w.heap.size w (w.alloc (.cells #[] monoT)):=(Below.refl _ _).alloc (Nat.le_refl _) _;change OwnPoly w.heap.size (w.alloc (.cells #[] 43)) _ _ at hown0;change Below w.heap.size w (w.alloc (.cells #[] 43)) at hb0
 have hap0:p≠[]->∀ ao n c,(.slice ap p.length cp:Value)=.slice (some ao) n c->some ao.block≠(.slice (some ⟨w.heap.size,0,none⟩) 0 0:Value).ownBlock:=by
  intro hne ao n c h hh
  cases p with
 |nil=>exact hne rfl
 |cons t p' =>
   obtain⟨b',o',r',e',-,hC'⟩:=cell_term hp (i:=0) (s:=t) rfl;simp only [Value.slice.injEq] at h;have h2:=hC'.lt;rw [e'] at h;have h1:=h.1;simp only [Option.some.injEq] at h1;subst h1;simp [Value.ownBlock] at hh;omega
 replace hp:=zH hp;replace hq:=zH hq;replace hap0:=zH hap0
 go_loopg [6,7] n (fun n vo va wr=>∃ a out,Hid (IsPoly wr va a)/\Hid (OwnPoly w.heap.size wr vo out)/\Hid (RunD sa sq (g::b) g n a out r)/\Below w.heap.size w wr/\Hid (a≠[]->∀ ao n c,va=.slice (some ao) n c->some ao.block≠vo.ownBlock))
 case atStart=>exact⟨p,[],zH (hp.out.on hb0),zH hown0,hd,hb0,hap0⟩
 case round =>
  clear hd hown0 hb0 hap0;obtain⟨a,out,ha,hown,hd,hbr,hap⟩:=hrel
  cases a with
 |nil =>
   have hr:r=some out:=hd.out.inv0;obtain⟨aa,ca,rfl,hca⟩:=ha.out.shape;replace hr:=zH hr;simp only [List.length_nil];go_wp2;go_ret2;exact⟨_,by rw [hr.out];rfl,by rw [hr.out];exact hown.out.isSl,hbr⟩
 |cons m a =>
   obtain⟨hPa,hfail,hstep⟩:=hd.out.inv;obtain⟨aa,ca,rfl,hca⟩:=ha.out.shape;obtain⟨ba,oa,ra,rfl,hra,hCa⟩:=cell_term ha.out (i:=0) (s:=m) rfl;rw [Nat.zero_mul,Nat.add_zero] at hCa;have hla:=hra.len;have hne1:some ba≠u6.ownBlock:=fun h=>hap.out (by simp) _ _ _ rfl h;have hgo:=fun v hv=>Ex.get_bounds (ir_sub hPa hB.out.pb) (v:=v) hv;have hsx:=fun v hv=>subX m.1 g.1 v hv;have hg0:((a.length+1:Nat):Int) > 0:=by omega
   replace hgo:=zH hgo;replace hsx:=zH hsx;replace hfail:=zH hfail;replace hstep:=zH hstep;simp only [List.length_cons]
   go_upto_region 6 with (fail)
   refine abs1 fun W3 hb3 BB hs3=>?_;have hbr3:=hbr.trans (hb3.mono hbr.size);have ha3:=ha.out.on hb3;have hown3:=hown.out.on hb3;have hra3:=hra.on hb3;have hwm:w.heap.size<=wr.heap.size:=hbr.size;have hom:u6.ownBlock≠some wr.heap.size:=fun h=>by have:=(hown.out.base_le _ h).2;omega
   have ham:ba≠wr.heap.size:=fun h=>by have:=hCa.lt;omega
   have hbase:∀ k,u6.ownBlock=some k->w.heap.size<=k:=fun k hk=>(hown.out.base_le k hk).1;clear hb3 hCa ha hown hra hbr hap hd hs3;generalize wr.heap.size=mb at *;have hst:Hid (Blk W3 mb monoT (exC (subZ m.1 g.1 0)++[.bool false,.slice none 0 0,.bool false,.slice none 0 0])):=zH BB;clear BB;go_wp2
   go_loopw [9] (fun i wr=>∃ k:Nat,k<=4/\i=.int .i64 k/\Hid (Blk wr mb monoT (exC (subZ m.1 g.1 k)++[.bool false,.slice none 0 0,.bool false,.slice none 0 0]))/\Hid (IsPoly wr (.slice (some ⟨ba,oa,none⟩) (a.length+1) ca) (m::a))/\Hid (OwnPoly w.heap.size wr u6 out)/\Below w.heap.size w wr) (fun i _=>4-(intOf i).toNat)
   case atStart=>exact⟨0,by omega,rfl,hst,zH ha3,zH hown3,hbr3⟩
   case round =>
    clear hst ha3 hown3 hra3 hbr3;obtain⟨k,hk,rfl,hB1,ha,hown,hbr⟩:=hrel;obtain⟨ba',oa',ra,e9,hra,hCa⟩:=cell_term (ap:=some ⟨ba,oa,none⟩) (cp:=ca) (p:=m::a) ha.out (i:=0) (s:=m) rfl;simp only [Option.some.injEq,Addr.mk.injEq,and_true] at e9;obtain⟨rfl,rfl⟩:=e9;rw [Nat.zero_mul,Nat.add_zero] at hCa;have hla:=hra.len;have BB:=hB1.out;by_cases hk4:k<4
    ·have hk4':(k:Int)<4:=by omega
     have hat:=exC_at (subZ m.1 g.1 k) k hk4 [.bool false,.slice none 0 0,.bool false,.slice none 0 0];have hset:=exC_set (subZ m.1 g.1 k) k hk4 (m.1.get k-g.1.get k) [.bool false,.slice none 0 0,.bool false,.slice none 0 0];have hw:IntKind.i64.wrap (m.1.get k-g.1.get k)=m.1.get k-g.1.get k:=wrap_id (by rw [<- hsx.out k hk4];exact hgo.out k hk4);have hgat:=exC_at g.1 k hk4 rg;have hmat:=exC_at m.1 k hk4 ra
     have f1:∀ W',Below wr.heap.size wr W'->W'.cell? ⟨ba,oa+k,none⟩=some (.int .i64 (m.1.get k)):=fun W' h=>by
      rw [(hCa.on h).cell k (by simp [exC];omega)];exact hmat
     have f2:∀ W',Below wr.heap.size wr W'->W'.cell? ⟨bq,oq+k,none⟩=some (.int .i64 (g.1.get k)):=fun W' h=>by
      rw [(hCg.on (hbr.trans (h.mono hbr.size))).cell k (by simp [exC];omega)];exact hgat
     have hsucc:subZ m.1 g.1 (k+1)=Ex.put (subZ m.1 g.1 k) k (m.1.get k-g.1.get k):=rfl;generalize m.1.get k=x at *;generalize g.1.get k=y at *;replace hsucc:=zH hsucc;clear hgat hmat
     go_upto_region 9 with (fail)
     refine wp_region_L mixed (none) (0) (Okr.none) [.eq (.int .i64 k),.eq (.slice (some ⟨ba,oa,none⟩) (a.length+1) ca),.eq (.int .i64 k),.eq (.pointer (some ⟨ba,oa+0*8,none⟩)),.eq (.pointer (some ⟨ba,oa+0*8,none⟩)),.eq (.pointer (some ⟨ba,oa+k,none⟩)),.eq (.int .i64 x),.eq (.slice (some ⟨bq,oq,none⟩) (b.length+1) cq),.eq (.int .i64 k),.eq (.pointer (some ⟨bq,oq+0*8,none⟩)),.eq (.pointer (some ⟨bq,oq+0*8,none⟩)),.eq (.pointer (some ⟨bq,oq+k,none⟩)),.eq (.int .i64 y),.eq (.int .i64 (x-y)),.eq (.pointer (some ⟨mb,0,none⟩)),.eq (.pointer (some ⟨mb,k,none⟩))] [24,25,26,27,28,29,30,31,32,33,34,35,36,37,38,39] rfl rfl rfl rfl ⟨?_,?_,?_,?_,?_,?_,?_,?_,?_,?_,?_,?_,?_,?_,?_,?_,trivial⟩ ?_
     ·exact fun _ _ a _ _ _=>xM rfl (a 9 rfl)
     ·exact fun _ _ a _ _ _=>xM rfl (a 7 rfl)
     ·exact fun _ _ a _ _ _=>xM rfl (a 9 rfl)
     ·exact fun _ _ _ _ _ e=>pI rfl Tryz.underlying27 ba oa 0 (by omega) (e.1 rfl) rfl
     ·exact fun _ _ _ _ _ e=>goOn_plain rfl (xF0 rfl (e.1 rfl))
     ·intro A w1 hA hL hS he;have h28:=eT 28 (he.1 rfl);have h26:=eT 26 (he.2.1 rfl);exact pZ rfl
     ·intro A w1 hA hL hS he;have h29:=eT 29 (he.1 rfl);refine goOn_plain rfl ?_;have c0:=f1 w1 hL.below;exact stepG_pure rfl rfl gZ
     ·exact fun _ _ a _ _ _=>xM rfl (a 1 rfl)
     ·exact fun _ _ a _ _ _=>xM rfl (a 9 rfl)
     ·exact fun _ _ _ _ _ e=>pI rfl Tryz.underlying27 bq oq 0 (by omega) (e.1 rfl) rfl
     ·exact fun _ _ _ _ _ e=>goOn_plain rfl (xF0 rfl (e.1 rfl))
     ·intro A w1 hA hL hS he;have h34:=eT 34 (he.1 rfl);have h32:=eT 32 (he.2.1 rfl);exact pZ rfl
     ·intro A w1 hA hL hS he;have h35:=eT 35 (he.1 rfl);refine goOn_plain rfl ?_;have c0:=f2 w1 hL.below;exact stepG_pure rfl rfl gZ
     ·intro A w1 hA hL hS he;have h30:=eT 30 (he.1 rfl);have h36:=eT 36 (he.2.1 rfl);exact pZ rfl
     ·exact fun _ _ a _ _ _=>goOn_plain rfl (xF0 rfl (a 8 rfl))
     ·intro A w1 hA hL hS he;have h38:=eT 38 (he.1 rfl);have h24:=eT 24 (he.2.1 rfl);exact pZ rfl
     ·intro W2 hL2;have hb2:=hL2.below;simp only [TailL,FactL.eq,lZ];go_frame;have B2:=BB.on hb2;have z:=B2.at1 k _ hat;have hf:=B2.frozen k;have hown2:=hown.out.on hb2;have ha2:=ha.out.on hb2;have hbr2:=hbr.trans (hb2.mono hbr.size);have hl3:=setCell_lr (j:=k) B2 (.int .i64 (x - y));have B3:=B2.set k (.int .i64 (x - y));rw [hset] at B3;clear f1 f2 hL2;go_wp2;go_roundw
      case rel =>
       refine⟨k+1,by omega,by go_num,zH (by rw [hsucc.out];exact B3),zH (ha2.lrB hl3 (elTerm_ok (by decide)) (fun ao n c h=>by simp only [Value.slice.injEq,Option.some.injEq] at h;rw [<- h.1];simpa using ham)),zH (hown2.lr hl3 (elTerm_ok (by decide)) (.inr hom)),hbr2.trans (hl3.belowAt hbr2.size (fun k hk=>by cases hk;exact hwm))⟩
      case measure=>simp [intOf];omega
    ·obtain rfl:k=4:=by omega
     rw [subZ_full] at BB;clear hgo hsx hB1;obtain⟨E,hE⟩:∃ E,E=m.1.sub g.1:=⟨_,rfl⟩;have hqe:quoT m g=(E,m.2 / g.2):=by rw [hE];rfl
     rw [<- hE] at BB hfail hstep;replace hqe:=zH hqe;replace hE:=zH hE
     go_upto_region 10 with (fail)
     refine wp_region_S trivial (none) (0) (Okr.none) [.eq (.pointer (some ⟨mb,0,none⟩)),.eq (.agg (exC E).toArray),.ret (.bool E.nat),.eq (.bool (!E.nat))] [40,41,42,43] rfl rfl rfl rfl ⟨?_,?_,?_,?_,trivial⟩ ?_
     ·exact fun _ _ a _ _ _=>goOn_plain rfl (xF0 rfl (a 8 rfl))
     ·exact fun _ _ _ hL _ e=>pL rfl (blk_ex (BB.on hL.below)) Tryz.underlying36 (show (exC E).length=4 from rfl) (e.1 rfl)
     ·intro A w1 hA hL hS he;have hb:=hS rfl;have h41:=eT 41 (he.1 rfl);have hf0:=eF A 65;refine goOn_plain rfl ?_;refine stepG_call (f:=65) (args:=#[.agg (exC E).toArray]) rfl rfl ?_ ?_
      ·exact gZ
      ·refine (natural7_any E _).mono ?_;rintro e w' ⟨rfl,hb'⟩;exact⟨_,rfl,hb',rfl⟩
     ·intro A w1 hA hL hS he;have h42:=eT 42 (he.1 rfl);exact pZ rfl
     ·intro W2 hL2;have hb2:=hL2.below;simp only [TailL,FactL.eq,FactL.ret,lZ];go_frame;have B2:=BB.on hb2;have hown2:=hown.out.on hb2;have ha2:=ha.out.on hb2;have hra2:=hra.on hb2;have hCa2:=hCa.on hb2;have hbr2:=hbr.trans (hb2.mono hbr.size);clear hL2 BB hown ha hra hbr hb2 hCa;cases hEn:E.nat
      ·have hr:=hfail.out hEn;replace hr:=zH hr;clear hstep hEn;go_wp2;go_ret2;exact⟨_,by rw [hr.out];rfl,by rw [hr.out];exact nil_own (Nat.le_refl _),hbr2.trans (((Below.refl _ _).alloc (Nat.le_refl _) _).mono hbr2.size)⟩
      ·obtain⟨n',hn',hqb,hol,hd'⟩:=hstep.out hEn;rw [hqe.out] at hd' hqb;have hms:=hPa.rs m (by simp);have hff:=fits_of hPa hB.out.gs;have QV:Pk sq [((E,m.2 / g.2):Trm)]:=⟨hqe.out ▸ quoT_val hPa.v hgz.out.1 (by rw [<- hE.out];exact hEn),hqb,hB.out.oq⟩;have PT:=hB.out.pb.mul QV hB.out.om;have htm:=zH (fun W u (hu:IsPoly W u (g::b)) cs (hc:IsTerm W cs (E,m.2 / g.2))=>times_mul hB.out.pb.v QV.v ▸ times7_any u (g::b) cs (E,m.2 / g.2) W hu hc hB.out.pb.rs (QV.rs _ (by simp)) (hB.out.pb.times QV hB.out.om (by simp)).2 hB.out.pb.len);replace hd':=zH hd';replace hn':=zH hn';clear hfail hstep hEn;have hdiv:=fun W (hb:Below W2.heap.size W2 W)=>div2_any _ _ _ _ W (hra2.on hb).rat (hrg.on (hbr2.trans (hb.mono hbr2.size))).rat hms hgs.out hgz.out.1 hff;obtain⟨N1,A1,K1,C1,N2,A2,K2,C2,rfl,-,-⟩:=id hra2;obtain⟨N3,A3,K3,C3,N4,A4,K4,C4,rfl,-,-⟩:=id hrg;have u1:=B2.at1 4 _ rfl;have u2:=B2.at1 5 _ rfl;have u3:=B2.at1 6 _ rfl;have u4:=B2.at1 7 _ rfl;have hCg2:=hCg.on hbr2;have x1:W2.cell? ⟨bq,oq+4,none⟩=some (.bool N3):=by have:=hCg2.cell 4 (by simp [exC]);simpa [exC] using this
       have x2:W2.cell? ⟨bq,oq+4+1,none⟩=some (.slice A3 K3 C3):=by have:=hCg2.cell 5 (by simp [exC]);simpa [exC,Nat.add_assoc] using this
       have x3:W2.cell? ⟨bq,oq+4+2,none⟩=some (.bool N4):=by have:=hCg2.cell 6 (by simp [exC]);simpa [exC,Nat.add_assoc] using this
       have x4:W2.cell? ⟨bq,oq+4+3,none⟩=some (.slice A4 K4 C4):=by have:=hCg2.cell 7 (by simp [exC]);simpa [exC,Nat.add_assoc] using this
       have y1:W2.cell? ⟨ba,oa+4,none⟩=some (.bool N1):=by have:=hCa2.cell 4 (by simp [exC]);simpa [exC] using this
       have y2:W2.cell? ⟨ba,oa+4+1,none⟩=some (.slice A1 K1 C1):=by have:=hCa2.cell 5 (by simp [exC]);simpa [exC,Nat.add_assoc] using this
       have y3:W2.cell? ⟨ba,oa+4+2,none⟩=some (.bool N2):=by have:=hCa2.cell 6 (by simp [exC]);simpa [exC,Nat.add_assoc] using this
       have y4:W2.cell? ⟨ba,oa+4+3,none⟩=some (.slice A2 K2 C2):=by have:=hCa2.cell 7 (by simp [exC]);simpa [exC,Nat.add_assoc] using this
       have f1:=B2.frozen 4;have f2:=B2.frozen 5;have f3:=B2.frozen 6;have f4:=B2.frozen 7;clear hCg2 hCa2
       go_upto_region 12 with (fail)
       go_cut [45,46,47,48,49,50,51,52,53,54,55,56,57] (fun _ _ _ _ _ _ _ _ _ _ _ _ _ wc=>∃ r':List Value,Hid (Blk wc mb monoT (exC E++r'))/\Hid (IsRatC wc r' (m.2 / g.2))/\Hid (OwnPoly w.heap.size wc u6 out)/\Hid (IsPoly wc (.slice (some ⟨ba,oa,none⟩) (a.length+1) ca) (m::a))/\Below w.heap.size w wc)
       case first =>
        replace hown2:=zH hown2;replace ha2:=zH ha2
        go_region_with (go_at_call 71;refine (hdiv _ (bdn (Below.refl _ _) _)).mono ?_;rintro en w5 ⟨v5,rfl,hv5,hb5⟩;obtain⟨N5,A5,K5,C5,N6,A6,K6,C6,rfl⟩:=rat_agg hv5;have B5:=(B2.on (bdn (Below.refl _ _) _)).on hb5;have z1:=B5.at1 4 _ rfl;have z2:=B5.at1 5 _ rfl;have z3:=B5.at1 6 _ rfl;have z4:=B5.at1 7 _ rfl;have g1:=B5.frozen 4;have g2:=B5.frozen 5;have g3:=B5.frozen 6;have g4:=B5.frozen 7)
        all_goals
         obtain⟨R5,gr5⟩:=setCells_blk [.bool N5,.slice A5 K5 C5,.bool N6,.slice A6 K6 C6] 4 w5 _ B5 (by simp [exC]);have hl5:Lr (some mb) monoT w5 _:=⟨gr5,fun k hk=>by cases hk;exact⟨B5.noOther,R5.noOther⟩⟩;have hb25:Below W2.heap.size W2 w5:=(bdn (Below.refl _ _) _).trans (hb5.mono (Nat.le_refl _));have hbw5:=hbr2.trans (hb25.mono hbr2.size);have hown5:=(hown2.out.on hb25).lr hl5 (elTerm_ok (by decide)) (.inr hom);have ha5:=(ha2.out.on hb25).lrB hl5 (elTerm_ok (by decide)) (fun ao n c h=>by simp only [Value.slice.injEq,Option.some.injEq] at h;rw [<- h.1];simpa using ham);have hr5:=(hv5.lr hl5 (by decide)).cellsC (cs:=[.bool N5,.slice A5 K5 C5,.bool N6,.slice A6 K6 C6]);have hbw6:=hbw5.trans (hl5.belowAt hbw5.size (fun k hk=>by cases hk;exact hwm));clear z1 z2 z3 z4 g1 g2 g3 g4 B5 hv5 hl5 gr5;go_wp2;go_meet
         case rel=>exact⟨_,zH R5,zH hr5,zH hown5,zH ha5,hbw6⟩
       case rest =>
        clear B2 hown2 ha2 hra2 hdiv y1 y2 y3 y4 x1 x2 x3 x4 f1 f2 f3 f4 u1 u2 u3 u4 hbr2;obtain⟨r',hB1,hr',hown,ha,hbr⟩:=hcut;have BB:=hB1.out;have h4r:=hr'.out.len;have hlen8:(exC E++r').length=8:=by rw [List.length_append,h4r];rfl
        have hne':some mb≠u6.ownBlock:=fun h=>hom h.symm;replace hbase:=zH hbase;clear hB1 hlg
        go_upto_region 13 with (fail)
        refine wp_region_S trivial (u6.ownBlock) (monoT) (hown.out.okr) [.eq (u6),.eq (.agg (exC E++r').toArray),.new1 elTerm elTerm_okT ((E,m.2 / g.2)),.row elTerm (w.heap.size) wc.heap.size (out++[(E,m.2 / g.2)])] [58,59,60,61] rfl rfl rfl rfl ⟨?_,?_,?_,?_,trivial⟩ ?_
        ·exact fun _ _ a _ _ _=>xM rfl (a 6 rfl)
        ·exact fun _ _ a hL _ _=>pL rfl ((BB.lr hL hne').cells.range) Tryz.underlying43 (hlen8) (a 8 rfl)
        ·intro A w1 hA hL hS he;have h59:=eT 59 (he.1 rfl);refine goOn_plain rfl ?_;have hE:(elTerm:El _).E w1 _ ((E,m.2 / g.2)):=⟨_,rfl,hr'.out.lr hL (by decide)⟩;refine stepG_new1 rfl rfl ((hown.out.okr).lr hL) hE (execOp_buildSlice rfl ?_) (fun _ _ h=>h);simp only [List.map_toArray,List.map_cons,List.map_nil,h59];exact run_new1_elTermP _ _ ((elTerm).len hE)
        ·intro A w1 hA hL hS he;have hb:=hS rfl;have hbw:Below w.heap.size w w1:=hbr.trans (hL.belowAt hbr.size hbase.out);have h58:=eT 58 (he.1 rfl);obtain⟨v60,h60,f60⟩:=fT 60 (he.2.1 rfl);exact goOn_plain rfl (stepG_append rfl rfl rfl Tryz.underlying27 info_elTerm h58 h60 (hown.out.on hb) rfl rfl (isSl_of_new f60) (by simp only [List.length_cons,List.length_nil];omega) (hbw.size) hL.1.size (fun _ _ h1 h2=>⟨h1,h2⟩))
        ·intro W6 hL6;simp only [TailL,FactL.eq,FactL.new1,FactL.row,FactL.asPure,FactL.of,FactL.fragile,lZ];rintro v60 - v61 ⟨hown6,hnew⟩;go_frame;have hbW6:=hbr.trans (hL6.belowAt hbr.size hbase.out);have ha6:=ha.out.lrB hL6 (elTerm_ok (by decide)) (fun ao n c h=>by simp only [Value.slice.injEq,Option.some.injEq] at h;rw [<- h.1];exact hne1);have B6:=BB.lr hL6 hne';have hr6:=hr'.out.lr hL6 (by decide);have hq6:=hq.out.on hbW6;have hblk6:=zH hown6.base_le;clear hL6 BB ha hown hr' hbr hnew
         go_upto_region 14 with (fail)
         refine wp_region_S trivial (none) (0) (Okr.none) [.eq (.slice (some ⟨ba,oa,none⟩) (a.length+1) ca),.eq (.slice (some ⟨bq,oq,none⟩) (b.length+1) cq),.eq (.agg (exC E++r').toArray),.poly (by decide) (by decide) ((mulP (g::b) [(E,m.2 / g.2)])),.own W6.heap.size (subP (m::a) (mulP (g::b) [(E,m.2 / g.2)]))] [62,63,64,65,66] rfl rfl rfl rfl ⟨?_,?_,?_,?_,?_,trivial⟩ ?_
         ·exact fun _ _ a _ _ _=>xM rfl (a 7 rfl)
         ·exact fun _ _ a _ _ _=>xM rfl (a 1 rfl)
         ·exact fun _ _ a hL _ _=>pL rfl ((B6.on hL.below).cells.range) Tryz.underlying43 (hlen8) (a 8 rfl)
         ·intro A w1 hA hL hS he;have hb:=hS rfl;have h63:=eT 63 (he.1 rfl);have h64:=eT 64 (he.2.1 rfl);have hf0:=eF A 44;exact cP (f:=44) (args:=#[.slice (some ⟨bq,oq,none⟩) (b.length+1) cq,.agg (exC E++r').toArray]) (htm.out _ _ (hq6.on hb) _ ⟨_,rfl,hr6.on hb⟩)
         ·intro A w1 hA hL hS he;have hb:=hS rfl;have h62:=eT 62 (he.1 rfl);obtain⟨v65,h65,f65⟩:=fT 65 (he.2.1 rfl);have hf0:=eF A 35;refine goOn_plain rfl ?_;refine stepG_call (f:=35) (args:=#[.slice (some ⟨ba,oa,none⟩) (a.length+1) ca,v65]) rfl rfl ?_ ?_
          ·exact gZ
          ·refine (sub7_own hPa PT hB.out.os (ha6.on hb) f65).mono ?_;rintro e w' ⟨v,rfl,hi,hb'⟩;exact⟨_,rfl,hb',hi.base_mono hb.size⟩
         ·intro W7 hL7;have hb7:=hL7.below;simp only [TailL,FactL.eq,FactL.poly,FactL.own,FactL.of,lZ];rintro v65 - v66 hown9;go_frame;have hown7:=hown6.on hb7;have hbW7:=hbW6.trans (hb7.mono hbW6.size)
          have hap:(subP (m::a) (mulP (g::b) [(E,m.2 / g.2)]))≠[]->∀ ao n c,v66=.slice (some ao) n c->some ao.block≠v61.ownBlock:=fun _ ao n c h hc=>by
           have h1:=(hblk6.out ao.block hc.symm).2;obtain⟨xs,⟨-,h2⟩,-⟩:=hown9;rcases h2 with ⟨h2,-⟩|⟨gg,cap,cur,h2,h3,-⟩
           ·rw [h] at h2;cases h2
           ·rw [h] at h2;cases h2;simp only at h1;omega
          replace hap:=zH hap;clear hL7 hb7 hown6 ha6 B6 hr6 hq6 hbW6;go_wp2;go_roundg n'
          case measure=>have:=hn'.out;omega
          case rel=>exact⟨_,_,zH hown9.isSl,zH hown7,hd',hbW7,hap⟩
end Go.Proofs.YtopclbeomcggiaaGreat
end
section
namespace Q
open Go Go.Proofs.YtopclbeomcggiaaGreat
theorem run_exact {sp sb sq:Sz} {g:Trm} {ts:List Trm} (hb:Pk sb (g::ts)) (k:(sp.mul sb).ok):∀ (s out:List Trm),Pk sp s->(∀ t∈s,Bd sq [t])->out.length+s.length<=100000000->RunD (sp.mul sb) sq (g::ts) g s.length (mulP s (g::ts)) out (some (out++s))
|[],out,_,_,_=>by rw [List.append_nil];exact .done
|x::s,out,hs,hq,hn=>by
  have hz:=(hb.v.2 g (by simp)).1;have hx:=hs.v.2 x (by simp);obtain⟨h1,h2⟩:=mul_top hs.v hb.v;obtain⟨a,ha⟩:=head_is (Vld.mul _ _) (rmul_ne hx.1 hz) h1 h2;have hP:=hs.mul hb k;have hs':Pk sp s:=⟨hs.v.tail,hs.b.sub (List.sublist_cons_self _ _),hs.k⟩;have ih:=run_exact hb k s (out++[x]) hs' (fun t ht=>hq t (by simp [ht])) (by simp at hn ⊢;omega);have h3:=sub_back hs.v hb.v Vld.nil;rw [addP_nil (Vld.mul _ _),addP_nil (Vld.mul _ _)] at h3;rw [ha] at hP h3 ⊢;have h4:=quo_back (x:=x) hz;have h5:((x.1.add g.1).sub g.1)=x.1:=congrArg Prod.fst h4;refine .step (by show ((x.1.add g.1).sub g.1).nat=true;rw [h5];exact hx.2) hP (by rw [h4];exact hq x (by simp)) (by simp at hn;omega) ?_;rw [h4,h3];simpa using ih
end Q
namespace Go.Proofs.YtopclbeomcggiaaGreat
open Go Go.RowKit Q
def RetDivT (w:World) (s:List Trm) (t:Bool) (e:Ending) (w':World):Prop:=∃ v,e=.returned (.tuple #[v,.bool t])/\IsPoly w' v s/\Below w.heap.size w w'
end Go.Proofs.YtopclbeomcggiaaGreat
end
