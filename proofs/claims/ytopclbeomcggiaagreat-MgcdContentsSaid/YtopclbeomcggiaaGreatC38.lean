/- The greatest common divisor of small polynomials: the program's answers. No program in sight. Chapter 08's numbers. No program in sight. Chapter 08's polynomials have a greatest common divisor that the program answers. No program in sight. What chapter 08 draws, its products, and the normal divisors: sizes. No program in sight. MgcdLaws: the plain law. No program in sight. -/
import Derived.Test.YtopclbeomcggiaaGreatC33
import Derived.Test.YtopclbeomcggiaaGreatC34
import Derived.Test.YtopclbeomcggiaaGreatC37
set_option linter.unusedVariables false
set_option linter.unusedSimpArgs false
set_option maxHeartbeats 16000000
set_option maxRecDepth 100000
section
namespace Q
open MP Go Go.Proofs.YtopclbeomcggiaaGreat
theorem gcdT_S {G:List Trm->List Trm->Option (List Trm)} {a b r:List Trm} (h:gcdT G a b=some r):gcdS G a b=some r:=by
 unfold gcdT at h;unfold gcdS;split at h
 ·rename_i h1;rw [if_pos h1];exact h
 rename_i h1;rw [if_neg h1];split at h
 ·rename_i h2;rw [if_pos h2];exact h
 rename_i h2;rw [if_neg h2];split at h
 ·rename_i h3;rw [if_pos h3];exact h
 rename_i h3;rw [if_neg h3];obtain⟨v,hv,h⟩:=bind2_some h;rw [hv];simp only [bind2];split at h
 ·rename_i h4;rw [if_pos h4];exact h
 rename_i h4;rw [if_neg h4];split at h
 ·rename_i h5;rw [if_pos h5];exact h
 rename_i h5;rw [if_neg h5];obtain⟨x,hx,h⟩:=bind2_some h;obtain⟨y,hy,h⟩:=bind2_some h;obtain⟨g,hg,h⟩:=bind2_some h;obtain⟨p,hp,h⟩:=bind2_some h;obtain⟨q,hq,h⟩:=bind2_some h;split at h
 ·cases h
 rw [hx,hy];simp only;rw [hg];simp only;rw [hp,hq];exact h
theorem gcdN_ok:∀ n,Gok (gcdN n)
|0=>fun _ _ _ h=>by cases h
|n+1=>fun a b r h=>gcdS_ok (gcdN_ok n) a b r (gcdT_S h)
theorem highN_eq {v:Nat} {a b:MP} (h:0<a.deg v\/0<b.deg v) (la:a.lo (v+1)) (lb:b.lo (v+1)):∀ n,n<=4->v<n->highN [a.l,b.l] n=some v
|0,_,h=>by omega
|n+1,hn,hv=>by
  rw [highN];rcases Nat.eq_or_lt_of_le (show v<=n by omega) with e|hlt
  ·subst e;rw [if_pos];simp only [List.any_cons,List.any_nil,Bool.or_false,Bool.or_eq_true,decide_eq_true_eq];exact h
  ·rw [if_neg]
   ·exact highN_eq h la lb n (by omega) hlt
   ·simp only [List.any_cons,List.any_nil,Bool.or_false,Bool.or_eq_true,decide_eq_true_eq,not_or];have h1:a.deg n<=0:=la n (by omega) (by omega);have h2:b.deg n<=0:=lb n (by omega) (by omega);exact⟨by show ¬ 0<a.deg n;omega,by show ¬ 0<b.deg n;omega⟩
theorem part_size {v:Nat} {L:LvD} (h:LvOk v L) {a x p:MP} (a0:a≠0) (la:a.lo (v+1)) (da:Dg (bxf v L.d L.M) a) (ia:In L.b a) (e:a=x*p) (hx:hd x=1) (hxl:v=0->x=1):In (L.b1 v) p:=by
 unfold LvD.b1;split
 ·rename_i hv0;have e1:a=p:=by rw [e,hxl hv0];grind
  rw [<- e1];exact ia
 ·exact ia.quot (n:=v+1) (by have:=h.hv;omega) a0 (e.trans (mul_cm x p)) hx la da h.k0
theorem seqS_ex {v:Nat} {L:LvD} (h:LvOk v L) {G:List Trm->List Trm->Option (List Trm)} (hG:Gok G) (hX:Gex (bxf v L.E 0) L.bE G)
  {p q:MP} (pp:p.prim v) (pq:q.prim v) (dp:Dg (bxf v L.d L.M) p) (dq:Dg (bxf v L.d L.M) q) (ip:In (L.b1 v) p) (iq:In (L.b1 v) q) (hqd:1<=q.deg v) (hpq:q.deg v<=p.deg v) :
  ∃ s:MP,seqS G p.l q.l v=some s.l/\In (L.mu v (2*L.M)) s:=by
 have hv:=h.hv;have p0:=prim_ne pp;have q0:=prim_ne pq;have hM:=dp.top hv;have hM2:=dq.top hv;have hfl:=h.fl;have e1:degP p.l v=p.deg v:=rfl;have e2:degP q.l v=q.deg v:=rfl;have e3:L.mu v 1=L.b1 v:=if_pos rfl;have hmu:L.b1 v<=L.mu v (2*L.M):=by rw [<- e3];exact mu_le h (Nat.le_refl _) (by have:=h.dE.2.2.2;omega) (Nat.le_refl _)
 obtain⟨m,hm⟩:=boundGo_ex (a:=p.l) (b:=q.l) (v:=v) (by omega) (by omega) [0,1,2];obtain⟨r,hr⟩:=divW_ex hv q0 (dp.low hv) hM (dq.low hv) dp.lo dq.lo ip iq h.dv.1 h.dv.2;unfold seqS boundO;rw [hm];simp only;split
 ·exact⟨1,by rw [oneP_eq],In.one _⟩
 ·rw [hr];simp only;split
  ·exact⟨q,rfl,iq.mono hmu⟩
  ·exact seqGo_ex h hG hX p0 q0 dp.lo dq.lo (dp.low hv) (dq.low hv) ip iq hM hM2 fuel p q 1 (by omega) .base pp pq dp.lo dq.lo
    (fun w hw=>by have:=dp.low hv w hw;omega) (fun w hw=>by have:=dq.low hv w hw;omega) (by rw [e3];exact ip) (by rw [e3];exact iq) (Nat.le_refl _) (by have:=h.dE.2.2.2;omega) (.inl rfl) hqd hpq hM hpq (Int.le_refl _)
theorem gcdT_ex {v:Nat} {L:LvD} (h:LvOk v L) {G:List Trm->List Trm->Option (List Trm)} (hG:Gok G) (hX:Gex (bxf v L.E 0) L.bE G) (hlow:Gex (bxf v L.E 0) L.bE (gcdT G)):Gex (bxf v L.d L.M) L.b (gcdT G):=fun a b da db ia ib=>by
 have hv:=h.hv;have hdE:=h.dE;have hx2:=h.x2
 have hbd:bx (bxf v L.d L.M)<=10000:=by
  rw [bxf_bx hv];exact Nat.le_trans (Nat.mul_le_mul_left _ (Nat.pow_le_pow_left (by omega) v)) h.bP
 have hb1:L.b<=L.b1 v:=by unfold LvD.b1;split <;> omega
 have hbL:L.b<LB:=by omega
 have hbr:L.b<=L.bE:=by unfold LvD.bE;omega
 have low0:∀ p:MP,Dg (bxf v L.d L.M) p->p.deg v<=0->Dg (bxf v L.E 0) p:=fun p dp hp=>dg_bxf dp.lo (fun w hw=>by have:=dp.low hv w hw;omega) hp;by_cases hfr:a.deg v<=0/\b.deg v<=0
 ·exact hlow a b (low0 a da hfr.1) (low0 b db hfr.2) (ia.mono hbr) (ib.mono hbr)
 unfold gcdT;split
 ·exact⟨_,normO_ex db ib hbd hbL⟩
 rename_i ha;have a0:a≠0:=fun e=>ha (zero_iff.1 e);split
 ·exact⟨_,normO_ex da ia hbd hbL⟩
 rename_i hb;have b0:b≠0:=fun e=>hb (zero_iff.1 e);split
 ·exact⟨_,rfl⟩
 have hhi:high [a.l,b.l]=some v:=highN_eq (by omega) da.lo db.lo 4 (by omega) hv;rw [hhi];simp only [bind2];have dlE:∀ p:MP,Dg (bxf v L.d L.M) p->∀ w,w<v->p.deg w<=L.E:=fun p dp w hw=>by have:=dp.low hv w hw;omega
 obtain⟨x,x1,x2,x3,x4⟩:=contO_ex h hdE.2.1 hG hX da.lo (dlE a da) ia;obtain⟨y,y1,y2,y3,y4⟩:=contO_ex h hdE.2.1 hG hX db.lo (dlE b db) ib;obtain⟨x5,x6⟩:=x4 a0;obtain⟨y5,y6⟩:=y4 b0;have hcz:L.cz v L.b<=L.bE:=cz_le hdE.2.1;split
 ·rename_i h0;rw [x1];exact hX x b x5 (low0 b db (Int.le_of_eq h0)) (x6.mono hcz) (ib.mono hbr)
 rename_i hb1';split
 ·rename_i h0;rw [y1];exact hX a y (low0 a da (Int.le_of_eq h0)) y5 (ia.mono hbr) (y6.mono hcz)
 rename_i ha1';rw [x1,y1];simp only;obtain⟨g',hg'⟩:=hX x y x5 y5 (x6.mono hcz) (y6.mono hcz);obtain⟨g,rfl,hg⟩:=hG x y _ hg';obtain⟨p,ep,pp,x0⟩:=cont_prim x2 a0;obtain⟨q,eq,pq,y0⟩:=cont_prim y2 b0;have p0:=prim_ne pp;have q0:=prim_ne pq
 have hxl:∀ z:MP,v=0->hd z=1->Dg (bxf v L.E 0) z->z=1:=fun z e h1 h2=>by
  subst e;obtain⟨r,rfl⟩:=const_of h2.lo0;have hr:r≠0:=fun e=>by rw [e,c_zero] at h1;cases h1
  have h1':=hd_cmul hr 1;have h2':c r*1=c r:=by grind
  rw [h2',h1,hd_one,Rat.one_mul] at h1';rw [<- h1',c_one]
 have ip:=part_size h a0 da.lo da ia ep (x3 x0) (fun e=>hxl x e (x3 x0) x5);have iq:=part_size h b0 db.lo db ib eq (y3 y0) (fun e=>hxl y e (y3 y0) y5);have hop:=overO_ex x0 (ep.trans (mul_cm x p)) da hbd ip x6 hx2;have hoq:=overO_ex y0 (eq.trans (mul_cm y q)) db hbd iq y6 hx2;have hpn:¬ (p.l=[]\/q.l=[]):=fun e=>e.elim (fun e=>p0 (zero_iff.2 e)) fun e=>q0 (zero_iff.2 e);rw [hg',hop,hoq];simp only;rw [if_neg hpn];have dp:Dg (bxf v L.d L.M) p:=da.dvd a0 ⟨x,ep.trans (mul_cm x p)⟩;have dq:Dg (bxf v L.d L.M) q:=db.dvd b0 ⟨y,eq.trans (mul_cm y q)⟩;have hpd:p.deg v=a.deg v:=by rw [ep,deg_mul x0 p0,fr_deg x2.f x0];omega
 have hqd:q.deg v=b.deg v:=by rw [eq,deg_mul y0 q0,fr_deg y2.f y0];omega
 have ha2:=deg_pos a0 v;have hb2:=deg_pos b0 v;have ha3:a.deg v≠0:=ha1';have hb3:b.deg v≠0:=hb1'
 have hs:∃ s:MP,seqO G p.l q.l v=some s.l/\In (L.mu v (2*L.M)) s:=by
  unfold seqO;split
  ·rename_i hlt;have hlt:p.deg v<q.deg v:=hlt;exact seqS_ex h hG hX pq pp dq dp iq ip (by omega) (by omega)
  ·rename_i hlt;have hlt:¬ p.deg v<q.deg v:=hlt;exact seqS_ex h hG hX pp pq dp dq ip iq (by omega) (by omega)
 obtain⟨s,s1,s2⟩:=hs;rw [s1];simp only;have e3:L.mu v 1=L.b1 v:=if_pos rfl;have hfin:=h.fin;have hmu:L.b1 v<=L.mu v (2*L.M):=by rw [<- e3];exact mu_le h (Nat.le_refl _) (by omega) (Nat.le_refl _)
 have wp0:Wp p.l:=wpB_wp (wp_of dp ip hbd (by omega));have wq0:Wp q.l:=wpB_wp (wp_of dq iq hbd (by omega));obtain⟨s',es,hsg⟩:=seqO_ok hG hv wp0 wq0 dp.lo dq.lo pp pq s1;have es':s=s':=MP.eq_of es;subst es';have hgs:g*s∣a:=by rw [ep];exact mul_dvd hg.i.l hsg.l
 have g0:=dvd_ne x0 hg.i.l
 have ig:In L.bE g:=by
  obtain⟨h1,h2⟩:=co_row h da.lo (dlE a da) ia (a.deg v).toNat;have h3:g∣a.lc v:=dvd_trans hg.i.l ((dvd_iff_co x2.f a).1 x2.d _);exact (div_size h (hg.n g0) (lc_ne a0 v) h3 h1 h2).2.mono hcz
 have im:=ig.mul s2;have dm:Dg (bxf v L.d L.M) (g*s):=da.dvd a0 hgs;have hw:=g1_of (wp_of dm im hbd hfin);have hw2:g1 (mulP g.l s.l)=some (g*s).l:=hw;rw [hw2];exact⟨_,normO_ex dm im hbd hfin⟩
theorem gcd_ex0 {b:Nat} (hb:b<LB) {d:Nat->Nat} (hd:∀ w,w<4->d w=0) (n:Nat):Gex d b (gcdN (n+1)):=fun x y dx dy ix iy=>by
 have hbx:bx d<=10000:=by unfold bx;rw [hd 0,hd 1,hd 2,hd 3] <;> omega
 have hc:∀ z:MP,Dg d z->z.l≠[]->constB z.l=true:=fun z dz hz=>by
  have hl:z.lo 0:=fun w _ h4=>by have:=dz w h4;rw [hd w h4] at this;exact this
  obtain⟨r,rfl⟩:=const_of hl;have e:(c r).l=constP r:=rfl;rw [e] at hz ⊢;unfold constP at hz ⊢;split
  ·rename_i h;rw [if_pos h] at hz;exact absurd rfl hz
  ·rfl
 show ∃ r,gcdT (gcdN n) x.l y.l=some r;unfold gcdT;split
 ·exact⟨_,normO_ex dy iy hbx hb⟩
 rename_i h1;split
 ·exact⟨_,normO_ex dx ix hbx hb⟩
 rw [if_pos (.inl (hc x dx h1))];exact⟨_,rfl⟩
theorem Gex.mono {d d':Nat->Nat} {b b':Nat} {G:List Trm->List Trm->Option (List Trm)} (h:Gex d b G) (hd:∀ w,d' w<=d w) (hb:b'<=b):Gex d' b' G:=fun x y dx dy ix iy=>h x y (dx.mono hd) (dy.mono hd) (ix.mono hb) (iy.mono hb)
def Lvs (L:Nat->LvD):Nat->Prop
|0=>LvOk 0 (L 0)
|v+1=>LvOk (v+1) (L (v+1))/\(L (v+1)).E<=(L v).d/\(L (v+1)).E<=(L v).M/\(L (v+1)).bE<=(L v).b/\Lvs L v
theorem gcd_ex {L:Nat->LvD}:∀ (v:Nat),Lvs L v->∀ n,Gex (bxf v (L v).d (L v).M) (L v).b (gcdN (n+v+2))
|0,h,n=>by
  have h0:LvOk 0 (L 0):=h;have hz:∀ w,w<4->bxf 0 (L 0).E 0 w=0:=fun w _=>by unfold bxf;rw [if_neg (by omega)];split <;> rfl
  have hb:(L 0).bE<LB:=by have:=h0.fin;omega
  exact gcdT_ex h0 (gcdN_ok (n+1)) (gcd_ex0 hb hz n) (gcd_ex0 hb hz (n+1))
|v+1,h,n=>by
  obtain⟨h1,h2,h3,h4,h5⟩:=h
  have hd:∀ w,bxf (v+1) (L (v+1)).E 0 w<=bxf v (L v).d (L v).M w:=fun w=>by
   unfold bxf;by_cases a1:w<v
   ·rw [if_pos (by omega),if_pos a1];exact h2
   ·by_cases a2:w=v
    ·rw [if_pos (by omega),if_neg a1,if_pos a2];exact h3
    ·rw [if_neg (by omega),if_neg a1,if_neg a2];split <;> exact Nat.le_refl _
  have g1:=(gcd_ex v h5 n).mono hd h4;have g2:=(gcd_ex v h5 (n+1)).mono hd h4;have e1:n+(v+1)+2=(n+v+2)+1:=by omega
  have e2:n+1+v+2=(n+v+2)+1:=by omega
  rw [e2] at g2;rw [e1];exact gcdT_ex h1 (gcdN_ok _) g1 g2
end Q
end
section
namespace Q
open MP Go.Proofs.YtopclbeomcggiaaGreat
def cl2 (n:Nat):Nat:=n.log2+1
def kb (d:Nat):Nat:=d*(cl2 (4*d+3)+cl2 (2*d+1))
def mkL (v M d b E br P:Nat):LvD where
 M:=M
 d:=d
 b:=b
 E:=E
 br:=br
 kE:=v*kb E
 k0:=v*kb d+kb M
 lM:=cl2 M
 P:=P
 R:=fun U=>if v=0 then 1 else 2*U*d+1
 l2:=fun U=>cl2 (2*U*(if v=0 then 1 else 2*U*d+1) ^ v)
 xi:=fun U=>(cl2 (2*U*(if v=0 then 1 else 2*U*d+1) ^ v)+(if v=0 then b else b+(b+(v*kb d+kb M))))*((U-1)*((if v=0 then 1 else 2*U*d+1)+d) ^ v) / (U*(if v=0 then 1 else 2*U*d+1) ^ v-(U-1)*((if v=0 then 1 else 2*U*d+1)+d) ^ v)+1
 kap:=fun U=>v*kb ((if v=0 then 1 else 2*U*d+1)-1+d)+kb M
def lvB (v:Nat) (L:LvD):Bool :=
 decide (v<4) && decide (L.M<=2 ^ L.lM) && decide (facK (bxf v L.d L.M) (v+1)<=2 ^ L.k0) && decide (facK (bxf v L.E 0) v<=2 ^ L.kE)
 && decide (∀ U,U<2*L.M->1<=U->L.mu v U<=L.mu v (U+1))
 && decide (∀ U,U<2*L.M+1->2<=U->0<L.R U/\2*U*L.R U ^ v<=2 ^ L.l2 U/\(L.l2 U+L.b1 v+L.xi U)*((U-1)*(L.R U+L.d) ^ v)<L.xi U*(U*L.R U ^ v)/\facK (bxf v (L.R U-1+L.d) L.M) (v+1)<=2 ^ L.kap U)
 && decide ((L.M+1)*(1*L.d)<=L.P/\(L.M+1)*(L.b1 v+1)+L.lM<LB)
 && decide (∀ k,k<L.M+1->2<=k->(k+1)*(L.U k*L.d)<=L.P/\(k+1)*(L.mu v (L.U k)+1)+L.lM<LB)
 && decide ((L.M+1)*(L.P+1) ^ v<=10000) && decide (L.M*(1*L.d)<=L.E/\L.M*(L.b1 v+1)+L.lM<=L.br)
 && decide (∀ k,k<L.M+1->3<=k->k*(L.U k*L.d)<=L.E/\k*(L.mu v (L.U k)+1)+L.lM<=L.br)
 && decide (L.d<=L.E/\L.b<=L.br/\L.E<=L.P/\1<=L.M) && decide (L.br+L.mu v (2*L.M)+L.cz v L.br<LB) && decide (L.b1 v+L.cz v L.b<LB)
 && decide (bx (wbx v L.d (wtM v L.d L.M))<=10000/\L.b1 v+L.b1 v+(bx (wbx v L.d (wtM v L.d L.M))+1)*(L.b1 v+1)<LB)
 && decide (L.bE+L.mu v (2*L.M)<LB) && decide (L.M+1<fuel)
theorem lvB_ok {v:Nat} {L:LvD} (h:lvB v L=true):LvOk v L:=by
 simp only [lvB,Bool.and_eq_true,decide_eq_true_eq] at h;obtain⟨⟨⟨⟨⟨⟨⟨⟨⟨⟨⟨⟨⟨⟨⟨⟨h1,h2⟩,h3⟩,h4⟩,h5⟩,h6⟩,h7⟩,h8⟩,h9⟩,h10⟩,h11⟩,h12⟩,h13⟩,h14⟩,h15⟩,h16⟩,h17⟩:=h;exact⟨h1,h2,h3,h4,h5,h6,h7,h8,h9,h10,h11,h12,h13,h14,h15,h16,h17⟩
end Q
end
section
namespace Q
open MP Go.Proofs.YtopclbeomcggiaaGreat
def L8:Nat->LvD
|0=>mkL 0 320 320 136492 16486400 7033665291 16589440
|1=>mkL 1 8 8 712 320 129772 400
|_=>mkL 2 2 4 90 8 536 24
theorem L8_0:LvOk 0 (L8 0):=lvB_ok (by decide +kernel)
theorem L8_1:LvOk 1 (L8 1):=lvB_ok (by decide +kernel)
theorem L8_2:LvOk 2 (L8 2):=lvB_ok (by decide +kernel)
theorem L8_ok:Lvs L8 2:=⟨L8_2,by decide +kernel,by decide +kernel,by decide +kernel,L8_1,by decide +kernel,by decide +kernel,by decide +kernel,L8_0⟩
def D8:Nat->Nat:=bxf 2 4 2
theorem gcd8 {a b:MP} (da:Dg D8 a) (db:Dg D8 b) (ia:In 90 a) (ib:In 90 b):∃ g:MP,gcdN 6 a.l b.l=some g.l/\NG g a b:=by
 obtain⟨r,hr⟩:=gcd_ex 2 L8_ok 2 a b da db ia ib;obtain⟨g,rfl,hg⟩:=gcdN_ok 6 a b r hr;exact⟨g,hr,hg⟩
end Q
end
section
namespace Q
open MP Go.Proofs.YtopclbeomcggiaaGreat
structure Dm (p:MP):Prop where
 e:∀ t∈p.l,(0<=t.1.1/\t.1.1<=2)/\(0<=t.1.2.1/\t.1.2.1<=2)/\(0<=t.1.2.2.1/\t.1.2.2.1<=1)/\t.1.2.2.2=0
 i:Ind 1 15 p
def made8M (L:List Dr4):MP:=⟨made8P L,canon_val _⟩
theorem made8_dm (L:List Dr4):Dm (made8M L):=by
 have hb:=(made8_bd L).canon;refine⟨canon_ex (P:=fun e=>(0<=e.1/\e.1<=2)/\(0<=e.2.1/\e.2.1<=2)/\(0<=e.2.2.1/\e.2.2.1<=1)/\e.2.2.2=0) fun t ht=>?_,hb.d,?_⟩
 ·obtain⟨s,hs,rfl⟩:=List.mem_map.1 ht;show (0<=s.1 % 256 % 3/\s.1 % 256 % 3<=2)/\(0<=s.2.1 % 256 % 3/\s.2.1 % 256 % 3<=2)/\(0<=s.2.2.1 % 256 % 2/\s.2.2.1 % 256 % 2<=1)/\(0:Int)=0;omega
 ·rw [show ((1:Nat):Rat)=1 from rfl,Rat.one_mul];exact hb.b
structure Dq (H:Nat) (p:MP):Prop where
 d:Dg D8 p
 i:Ind 1 H p
theorem D8_get:D8 0=4/\D8 1=4/\D8 2=2/\D8 3=0:=by decide
theorem Dm.dq {p:MP} (h:Dm p):Dq 15 p:=by
 refine⟨dg_of fun t ht=>⟨(p.v.2 t ht).2,fun w hw=>?_⟩,h.i⟩;have h1:=h.e t ht;obtain⟨e0,e1,e2,e3⟩:=D8_get;obtain rfl|rfl|rfl|rfl:w=0\/w=1\/w=2\/w=3:=by omega
 ·rw [e0];show t.1.1<=_;omega
 ·rw [e1];show t.1.2.1<=_;omega
 ·rw [e2];show t.1.2.2.1<=_;omega
 ·rw [e3];show t.1.2.2.2<=_;omega
theorem Dm.deg {p:MP} (h:Dm p):p.deg 0<=2/\p.deg 1<=2/\p.deg 2<=1/\p.deg 3<=0:=by
 have hw:∀ (w:Nat) (k:Int),0<=k->(∀ t∈p.l,t.1.get w<=k)->p.deg w<=k:=fun w k hk h=>by
  rcases (foldl_max (fun t=>t.1.get w) p.l (-1)).2.2 with e|⟨t,ht,e⟩
  ·show degP p.l w<=_;unfold degP;rw [e];omega
  ·show degP p.l w<=_;unfold degP;rw [<- e];exact h t ht
 exact⟨hw 0 2 (by omega) fun t ht=>by have:=h.e t ht;show t.1.1<=_;omega,hw 1 2 (by omega) fun t ht=>by have:=h.e t ht;show t.1.2.1<=_;omega,
  hw 2 1 (by omega) fun t ht=>by have:=h.e t ht;show t.1.2.2.1<=_;omega,hw 3 0 (by omega) fun t ht=>by have:=h.e t ht;show t.1.2.2.2<=_;omega⟩
theorem Dm.mul {p q:MP} (h:Dm p) (h':Dm q):Dq 225 (p*q):=by
 obtain⟨a0,a1,a2,a3⟩:=h.deg;obtain⟨b0,b1,b2,b3⟩:=h'.deg;obtain⟨e0,e1,e2,e3⟩:=D8_get;refine⟨fun w hw=>?_,h.i.mul h'.i⟩;obtain rfl|rfl|rfl|rfl:w=0\/w=1\/w=2\/w=3:=by omega
 ·rw [e0];exact deg_mul_le 0 p q a0 b0 (by omega)
 ·rw [e1];exact deg_mul_le 1 p q a1 b1 (by omega)
 ·rw [e2];exact deg_mul_le 2 p q a2 b2 (by omega)
 ·rw [e3];exact deg_mul_le 3 p q a3 b3 (by omega)
theorem D8_lo {p:MP} (h:Dg D8 p):p.lo 3:=h.lo
theorem facK8:facK D8 3<=2 ^ 72:=by decide +kernel
theorem bx8:bx D8=75:=by decide +kernel
theorem Dq.in {H b:Nat} {p:MP} (h:Dq H p) (hb:H<=2 ^ b):In b p:=⟨1,H,by omega,Nat.one_le_two_pow,hb,h.i⟩
theorem rabs_ge {x:Rat} (h:Dv 1 x) (h0:x≠0):1<=rabs x:=by
 obtain⟨z,rfl⟩:=int_of_dv h;exact MP.rabs_int fun e=>h0 (by rw [e];rfl)
theorem nd_ind {H:Nat} {f g q:MP} (h:Dq H f) (f0:f≠0) (e:f=g*q) (hg:hd g=1):∃ z:Nat,0<z/\z<=H/\Ind z (2 ^ 72*H) g/\Ind 1 (z*(2 ^ 72*H)) q:=by
 have g0:g≠0:=fun h=>f0 (by rw [e,h];grind);have q0:q≠0:=fun h=>f0 (by rw [e,h];grind);obtain⟨r,hr,hp⟩:=pz_of g0;have hri:c r*c r⁻¹=1:=by rw [c_mul,Rat.mul_inv_cancel _ hr];rfl
 have hrv:r⁻¹≠0:=fun h=>by have:=Rat.mul_inv_cancel _ hr;rw [h] at this;grind
 have e2:f=(c r*g)*(c r⁻¹*q):=by rw [e];grind
 have iQ:=gaussZ h.i.d hp e2;have Q0:c r⁻¹*q≠0:=mul_ne (c_ne hrv) q0;have G0:c r*g≠0:=mul_ne (c_ne hr) g0;have ham:f.am<=(H:Rat):=by have:=h.i.a;rwa [show ((1:Nat):Rat)=1 from rfl,Rat.one_mul] at this
 have hk:∀ x y:MP,f=x*y->x.dv 1->y.dv 1->Ind 1 (2 ^ 72*H) x:=fun x y e ix iy=>by
  refine⟨ix,?_⟩;have:=MP.fac D8 3 (by omega) _ _ _ e f0 ix iy (D8_lo h.d) fun w hw=>h.d w (by omega);rw [show ((1:Nat):Rat)=1 from rfl,Rat.one_mul,Rat.natCast_mul];exact Rat.le_trans this (rmul_le (nr_le facK8) ham (nr_nonneg _) (nr_nonneg _))
 have hG:=hk _ _ e2 hp.1 iQ;obtain⟨z,z1,z2,z3,z4⟩:=hG.nrm (by omega) G0;rw [nrm_cmul hr,nrm_one hg] at z4;rw [show ((1:Nat):Rat)=1 from rfl,Rat.one_mul] at z2;have ehd:hd f=hd (c r*g)*hd (c r⁻¹*q):=by rw [e2,hd_mul G0 Q0]
 have hq1:1<=rabs (hd (c r⁻¹*q)):=by
  obtain⟨t,ht,et⟩:=hd_mem Q0;exact rabs_ge (by rw [et];exact iQ t ht) (hd_ne Q0)
 have hzH:z<=H:=by
  refine Rat.natCast_le_natCast.1 ?_;rw [z2];have h1:=Rat.mul_le_mul_of_nonneg_left hq1 (rabs_nonneg (hd (c r*g)));rw [<- rabs_mul,<- ehd,Rat.mul_one] at h1;exact Rat.le_trans h1 (Rat.le_trans (hd_am f0) ham)
 refine⟨z,z1,hzH,z4,?_⟩;have hQ:=hk _ _ (e2.trans (mul_cm _ _)) iQ hp.1;have hdr:hd (c r*g)=r:=by rw [hd_cmul hr,hg,Rat.one_mul]
 have eq:q=c r*(c r⁻¹*q):=by grind
 have ir:Dv 1 r:=by
  obtain⟨t,ht,et⟩:=hd_mem G0;rw [<- hdr,et];exact hp.1 t ht
 have i1:Ind 1 z (c r):=⟨dv_c ir,by rw [am_c,show ((1:Nat):Rat)=1 from rfl,Rat.one_mul,z2,hdr];exact Rat.le_refl⟩;have:=i1.mul hQ;rw [<- eq,Nat.one_mul] at this;exact this
def szN (D:Nat):Sz:=⟨D,2 ^ 200,4,75⟩
theorem ind_bd {D H:Nat} {p:MP} (h:Ind D H p) (hD:0<D) (hd:Dg D8 p) (hH:H<=2 ^ 200):Bd (szN D) p.l:=by
 refine⟨by have:=hd.len;rw [bx8] at this;exact this,fun t ht=>?_,h.d,?_⟩
 ·have h1:=(hd.inB t ht).2;have h0:=Ex.nat_iff.1 (hd.inB t ht).1;obtain⟨e0,e1,e2,e3⟩:=D8_get;have a0:=h1 0 (by omega);have a1:=h1 1 (by omega);have a2:=h1 2 (by omega);have a3:=h1 3 (by omega);rw [e0] at a0;rw [e1] at a1;rw [e2] at a2;rw [e3] at a3;simp only [Ex.get] at a0 a1 a2 a3;simp only [szN];omega
 ·have h1:p.am<=(D:Rat)*p.am:=by
   have h2:(1:Rat)<=(D:Rat):=one_le_nat hD;have:=Rat.mul_le_mul_of_nonneg_right h2 p.am_nonneg;rwa [Rat.one_mul] at this
  exact Rat.le_trans h1 (Rat.le_trans h.a (nr_le hH))
theorem szN_ok {D:Nat} (h:0<D) (h':D<65536):(szN D).ok:=⟨h,h',by show 2 ^ 200<2 ^ 1000;exact p200,by show 4<1000000;omega,by show 75<1000000;omega⟩
theorem szN_mul {D D':Nat} (h:0<D) (h':0<D') (k:D*D' < 65536):((szN D).mul (szN D')).ok:=⟨Nat.mul_pos h h',k,by show 2 ^ 200*2 ^ 200<2 ^ 1000;exact p200',by show 4+4<1000000;omega,by show 75*75<1000000;omega⟩
theorem nd_pk {H:Nat} {f g:MP} (h:Dq H f) (hH:H<=225) (f0:f≠0) (hd:g∣f) (hg:Q.hd g=1):∃ z,0<z/\z<=H/\Pk (szN z) g.l:=by
 obtain⟨q,e⟩:=hd;obtain⟨z,z1,z2,z3,-⟩:=nd_ind h f0 e hg;have h1:=Nat.mul_le_mul_left (2 ^ 72) hH;exact⟨z,z1,z2,g.v,ind_bd z3 z1 (h.d.dvd f0 ⟨q,e⟩) (Nat.le_trans h1 (by decide +kernel)),szN_ok z1 (by omega)⟩
theorem zero_pk:Pk (szN 1) (0:MP).l:=⟨(0:MP).v,Bd.nil _,szN_ok (by omega) (by omega)⟩
theorem ng_pk {H:Nat} {a b g:MP} (ha:Dq H a) (hb:Dq H b) (hH:H<=225) (hg:NG g a b):∃ z,0<z/\z<=225/\Pk (szN z) g.l:=by
 by_cases g0:g=0
 ·rw [g0];exact⟨1,by omega,by omega,zero_pk⟩
 ·by_cases a0:a=0
  ·by_cases b0:b=0
   ·exact absurd (zero_dvd (hg.i.u 0 (by rw [a0];exact dvd_refl 0) (by rw [b0];exact dvd_refl 0))) g0
   ·obtain⟨z,z1,z2,z3⟩:=nd_pk hb hH b0 hg.i.r (hg.n g0);exact⟨z,z1,by omega,z3⟩
  ·obtain⟨z,z1,z2,z3⟩:=nd_pk ha hH a0 hg.i.l (hg.n g0);exact⟨z,z1,by omega,z3⟩
end Q
end
section
namespace Q
open MP Go.Proofs.YtopclbeomcggiaaGreat
theorem wp8 {p:MP} (hd:Dg D8 p) (hi:In 90 p):Wp p.l:=wpB_wp (wp_of hd hi (by rw [bx8];omega) (by rw [LB_eq];omega))
theorem norm8 {p:MP} (hd:Dg D8 p) (hi:In 90 p):normO p.l=some (nrm p).l:=normO_ex hd hi (by rw [bx8];omega) (by rw [LB_eq];omega)
theorem p225:2 ^ 72*225<=2 ^ 90:=by decide +kernel
theorem Dq.in90 {H:Nat} {p:MP} (h:Dq H p) (hH:H<=225):In 90 p:=h.in (Nat.le_trans hH (by decide +kernel))
theorem nd_in {H:Nat} {f g:MP} (h:Dq H f) (hH:H<=225) (f0:f≠0) (hd:g∣f) (hg:Q.hd g=1):Dg D8 g/\In 90 g:=by
 obtain⟨q,e⟩:=hd;obtain⟨z,z1,z2,z3,-⟩:=nd_ind h f0 e hg;have h1:=Nat.mul_le_mul_left (2 ^ 72) hH;exact⟨h.d.dvd f0 ⟨q,e⟩,z,_,z1,Nat.le_trans (Nat.le_trans z2 hH) (by decide +kernel),Nat.le_trans h1 p225,z3⟩
theorem zero_in:Dg D8 (0:MP)/\In 90 (0:MP):=⟨fun w _=>by rw [deg_zero];omega,In.zero _⟩
theorem ng_in {H:Nat} {a b g:MP} (ha:Dq H a) (hb:Dq H b) (hH:H<=225) (hg:NG g a b):Dg D8 g/\In 90 g:=by
 by_cases g0:g=0
 ·rw [g0];exact zero_in
 ·by_cases a0:a=0
  ·by_cases b0:b=0
   ·exact absurd (zero_dvd (hg.i.u 0 (by rw [a0];exact dvd_refl 0) (by rw [b0];exact dvd_refl 0))) g0
   ·exact nd_in hb hH b0 hg.i.r (hg.n g0)
  ·exact nd_in ha hH a0 hg.i.l (hg.n g0)
theorem NG.eq2 {g h a b:MP} (hg:NG g a b) (hh:NG h a b):g=h:=by
 have h1:=hh.i.u g hg.i.l hg.i.r;have h2:=hg.i.u h hh.i.l hh.i.r;by_cases h0:g=0
 ·rw [h0] at h1 ⊢;exact (zero_dvd h1).symm
 ·have h3:h≠0:=fun e=>h0 (by rw [e] at h2;exact zero_dvd h2);exact nrm_eq h0 h1 h2 (hg.n h0) (hh.n h3)
theorem nrm_ng (a:MP):NG (nrm a) a a:=NG.self
structure An (a b g:MP):Prop where
 e:gcdN 6 a.l b.l=some g.l
 wa:Wp a.l
 wb:Wp b.l
theorem an_of {a b g:MP} (da:Dg D8 a) (db:Dg D8 b) (ia:In 90 a) (ib:In 90 b) (hg:NG g a b):An a b g:=by
 obtain⟨h,e,hh⟩:=gcd8 da db ia ib;rw [hh.eq2 hg] at e;exact⟨e,wp8 da ia,wp8 db ib⟩
theorem laws_ex {a b c:MP} (ha:Dm a) (hb:Dm b) (hc:Dm c):∃ g h k n m:MP,∃ zg zh zk zn zm:Nat,An a b g/\An b c h/\An (a*c) (b*c) (n*g)/\An b a g/\An g c k/\An a h k/\An a a m /\
  normO c.l=some n.l/\normO a.l=some m.l/\Wp c.l/\Wp a.l/\Pk (szN zg) g.l/\Pk (szN zh) h.l/\Pk (szN zk) k.l/\Pk (szN zn) n.l/\Pk (szN zm) m.l/\((szN zn).mul (szN zg)).ok:=by
 have qa:=ha.dq;have qb:=hb.dq;have qc:=hc.dq;have ia:=qa.in90 (by omega);have ib:=qb.in90 (by omega);have ic:=qc.in90 (by omega);have qac:=ha.mul hc;have qbc:=hb.mul hc;obtain⟨g,eg,hg⟩:=gcd8 qa.d qb.d ia ib;obtain⟨h,eh,hh⟩:=gcd8 qb.d qc.d ib ic;obtain⟨dg,ig⟩:=ng_in qa qb (by omega) hg;obtain⟨dh,ih⟩:=ng_in qb qc (by omega) hh;obtain⟨k,ek,hk⟩:=gcd8 dg qc.d ig ic;have hk':=NG.assoc hg hh hk;obtain⟨x,ex,hx⟩:=gcd8 qac.d qbc.d (qac.in90 (by omega)) (qbc.in90 (by omega));have hxe:=NG.fac hg hx;rw [hxe] at hx;have nd:∀ {f:MP},Dq 15 f->f≠0->∀ {y:MP},y∣f->(y≠0->hd y=1)->∃ z,0<z/\z<=15/\Pk (szN z) y.l:=fun hf f0 y hy hn=>nd_pk hf (by omega) f0 hy (hn (dvd_ne f0 hy));have hnz:∀ {f y:MP},f≠0->y∣f->y≠0:=fun h1 h2=>dvd_ne h1 h2
 have gz:∃ z,0<z/\z<=15/\Pk (szN z) g.l:=by
  by_cases a0:a=0
  ·by_cases b0:b=0
   ·have:g=0:=zero_dvd (hg.i.u 0 (by rw [a0];exact dvd_refl 0) (by rw [b0];exact dvd_refl 0));rw [this];exact⟨1,by omega,by omega,zero_pk⟩
   ·exact nd qb b0 hg.i.r hg.n
  ·exact nd qa a0 hg.i.l hg.n
 obtain⟨zg,g1,g2,g3⟩:=gz;obtain⟨zh,h1,h2,h3⟩:=ng_pk qb qc (by omega) hh
 have kz:∃ z,0<z/\z<=15/\Pk (szN z) k.l:=by
  by_cases a0:a=0
  ·by_cases b0:b=0
   ·by_cases c0:c=0
    ·have e1:h=0:=zero_dvd (hh.i.u 0 (by rw [b0];exact dvd_refl 0) (by rw [c0];exact dvd_refl 0));have:k=0:=zero_dvd (hk'.i.u 0 (by rw [a0];exact dvd_refl 0) (by rw [e1];exact dvd_refl 0));rw [this];exact⟨1,by omega,by omega,zero_pk⟩
    ·exact nd qc c0 hk.i.r hk.n
   ·exact nd qb b0 (dvd_trans hk.i.l hg.i.r) hk.n
  ·exact nd qa a0 hk'.i.l hk.n
 obtain⟨zk,k1,k2,k3⟩:=kz
 have nz:∀ {f:MP},Dq 15 f->∃ z,0<z/\z<=15/\Pk (szN z) (nrm f).l:=fun {f} hf=>by
  by_cases f0:f=0
  ·rw [f0,nrm_zero];exact⟨1,by omega,by omega,zero_pk⟩
  ·exact nd hf f0 (nrm_dvd f0).1 fun _=>hd_nrm f0
 obtain⟨zn,n1,n2,n3⟩:=nz qc;obtain⟨zm,m1,m2,m3⟩:=nz qa;refine⟨g,h,k,nrm c,nrm a,zg,zh,zk,zn,zm,an_of qa.d qb.d ia ib hg,an_of qb.d qc.d ib ic hh,an_of qac.d qbc.d (qac.in90 (by omega)) (qbc.in90 (by omega)) hx,an_of qb.d qa.d ib ia hg.comm,an_of dg qc.d ig ic hk,an_of qa.d dh ia ih hk',an_of qa.d qa.d ia ia (nrm_ng a),norm8 qc.d ic,norm8 qa.d ia,wp8 qc.d ic,wp8 qa.d ia,g3,h3,k3,n3,m3,szN_mul n1 g1 ?_⟩;have:=Nat.mul_le_mul n2 g2;omega
end Q
end
