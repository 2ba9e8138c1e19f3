/- The greatest common divisor of small polynomials: the program's answers. No program in sight. -/
import Derived.Test.YtopclbeomcggiaaGreatE35
import Derived.Test.YtopclbeomcggiaaGreatE37
set_option linter.unusedVariables false
set_option linter.unusedSimpArgs false
set_option maxHeartbeats 16000000
set_option maxRecDepth 100000
namespace Q
open MP Go Go.Proofs.YtopclbeomcggiaaGreat
theorem gcdT_S {G:List Trm->List Trm->Option (List Trm)} {a b r:List Trm} (h:gcdT G a b=some r):gcdS G a b=some r:=by
 unfold gcdT at h;unfold gcdS;split at h
 ·rename_i h1;rw [if_pos h1];exact h
 rename_i h1;rw [if_neg h1];split at h
 ·rename_i h2;rw [if_pos h2];exact h
 rename_i h2;rw [if_neg h2];split at h
 ·rename_i h3;rw [if_pos h3];exact h
 rename_i h3;rw [if_neg h3];obtain⟨v,hv,h⟩:=bind2_some h;rw [hv];simp only [bind2];split at h
 ·rename_i h4;rw [if_pos h4];exact h
 rename_i h4;rw [if_neg h4];split at h
 ·rename_i h5;rw [if_pos h5];exact h
 rename_i h5;rw [if_neg h5];obtain⟨x,hx,h⟩:=bind2_some h;obtain⟨y,hy,h⟩:=bind2_some h;obtain⟨g,hg,h⟩:=bind2_some h;obtain⟨p,hp,h⟩:=bind2_some h;obtain⟨q,hq,h⟩:=bind2_some h;split at h
 ·cases h
 rw [hx,hy];simp only;rw [hg];simp only;rw [hp,hq];exact h
theorem gcdN_ok:∀ n,Gok (gcdN n)
|0=>fun _ _ _ h=>by cases h
|n+1=>fun a b r h=>gcdS_ok (gcdN_ok n) a b r (gcdT_S h)
theorem highN_eq {v:Nat} {a b:MP} (h:0<a.deg v\/0<b.deg v) (la:a.lo (v+1)) (lb:b.lo (v+1)):∀ n,n<=4->v<n->highN [a.l,b.l] n=some v
|0,_,h=>by omega
|n+1,hn,hv=>by
  rw [highN];rcases Nat.eq_or_lt_of_le (show v<=n by omega) with e|hlt
  ·subst e;rw [if_pos];simp only [List.any_cons,List.any_nil,Bool.or_false,Bool.or_eq_true,decide_eq_true_eq];exact h
  ·rw [if_neg]
   ·exact highN_eq h la lb n (by omega) hlt
   ·simp only [List.any_cons,List.any_nil,Bool.or_false,Bool.or_eq_true,decide_eq_true_eq,not_or];have h1:a.deg n<=0:=la n (by omega) (by omega);have h2:b.deg n<=0:=lb n (by omega) (by omega);exact⟨by show ¬ 0<a.deg n;omega,by show ¬ 0<b.deg n;omega⟩
theorem part_size {v:Nat} {L:LvD} (h:LvOk v L) {a x p:MP} (a0:a≠0) (la:a.lo (v+1)) (da:Dg (bxf v L.d L.M) a) (ia:In L.b a) (e:a=x*p) (hx:hd x=1) (hxl:v=0->x=1):In (L.b1 v) p:=by
 unfold LvD.b1;split
 ·rename_i hv0;have e1:a=p:=by rw [e,hxl hv0];grind
  rw [<- e1];exact ia
 ·exact ia.quot (n:=v+1) (by have:=h.hv;omega) a0 (e.trans (mul_cm x p)) hx la da h.k0
theorem seqS_ex {v:Nat} {L:LvD} (h:LvOk v L) {G:List Trm->List Trm->Option (List Trm)} (hG:Gok G) (hX:Gex (bxf v L.E 0) L.bE G)
  {p q:MP} (pp:p.prim v) (pq:q.prim v) (dp:Dg (bxf v L.d L.M) p) (dq:Dg (bxf v L.d L.M) q) (ip:In (L.b1 v) p) (iq:In (L.b1 v) q) (hqd:1<=q.deg v) (hpq:q.deg v<=p.deg v) :
  ∃ s:MP,seqS G p.l q.l v=some s.l/\In (L.mu v (2*L.M)) s:=by
 have hv:=h.hv;have p0:=prim_ne pp;have q0:=prim_ne pq;have hM:=dp.top hv;have hM2:=dq.top hv;have hfl:=h.fl;have e1:degP p.l v=p.deg v:=rfl;have e2:degP q.l v=q.deg v:=rfl;have e3:L.mu v 1=L.b1 v:=if_pos rfl;have hmu:L.b1 v<=L.mu v (2*L.M):=by rw [<- e3];exact mu_le h (Nat.le_refl _) (by have:=h.dE.2.2.2;omega) (Nat.le_refl _)
 obtain⟨m,hm⟩:=boundGo_ex (a:=p.l) (b:=q.l) (v:=v) (by omega) (by omega) [0,1,2];obtain⟨r,hr⟩:=divW_ex hv q0 (dp.low hv) hM (dq.low hv) dp.lo dq.lo ip iq h.dv.1 h.dv.2;unfold seqS boundO;rw [hm];simp only;split
 ·exact⟨1,by rw [oneP_eq],In.one _⟩
 ·rw [hr];simp only;split
  ·exact⟨q,rfl,iq.mono hmu⟩
  ·exact seqGo_ex h hG hX p0 q0 dp.lo dq.lo (dp.low hv) (dq.low hv) ip iq hM hM2 fuel p q 1 (by omega) .base pp pq dp.lo dq.lo
    (fun w hw=>by have:=dp.low hv w hw;omega) (fun w hw=>by have:=dq.low hv w hw;omega) (by rw [e3];exact ip) (by rw [e3];exact iq) (Nat.le_refl _) (by have:=h.dE.2.2.2;omega) (.inl rfl) hqd hpq hM hpq (Int.le_refl _)
theorem gcdT_ex {v:Nat} {L:LvD} (h:LvOk v L) {G:List Trm->List Trm->Option (List Trm)} (hG:Gok G) (hX:Gex (bxf v L.E 0) L.bE G) (hlow:Gex (bxf v L.E 0) L.bE (gcdT G)):Gex (bxf v L.d L.M) L.b (gcdT G):=fun a b da db ia ib=>by
 have hv:=h.hv;have hdE:=h.dE;have hx2:=h.x2
 have hbd:bx (bxf v L.d L.M)<=10000:=by
  rw [bxf_bx hv];exact Nat.le_trans (Nat.mul_le_mul_left _ (Nat.pow_le_pow_left (by omega) v)) h.bP
 have hb1:L.b<=L.b1 v:=by unfold LvD.b1;split <;> omega
 have hbL:L.b<LB:=by omega
 have hbr:L.b<=L.bE:=by unfold LvD.bE;omega
 have low0:∀ p:MP,Dg (bxf v L.d L.M) p->p.deg v<=0->Dg (bxf v L.E 0) p:=fun p dp hp=>dg_bxf dp.lo (fun w hw=>by have:=dp.low hv w hw;omega) hp;by_cases hfr:a.deg v<=0/\b.deg v<=0
 ·exact hlow a b (low0 a da hfr.1) (low0 b db hfr.2) (ia.mono hbr) (ib.mono hbr)
 unfold gcdT;split
 ·exact⟨_,normO_ex db ib hbd hbL⟩
 rename_i ha;have a0:a≠0:=fun e=>ha (zero_iff.1 e);split
 ·exact⟨_,normO_ex da ia hbd hbL⟩
 rename_i hb;have b0:b≠0:=fun e=>hb (zero_iff.1 e);split
 ·exact⟨_,rfl⟩
 have hhi:high [a.l,b.l]=some v:=highN_eq (by omega) da.lo db.lo 4 (by omega) hv;rw [hhi];simp only [bind2];have dlE:∀ p:MP,Dg (bxf v L.d L.M) p->∀ w,w<v->p.deg w<=L.E:=fun p dp w hw=>by have:=dp.low hv w hw;omega
 obtain⟨x,x1,x2,x3,x4⟩:=contO_ex h hdE.2.1 hG hX da.lo (dlE a da) ia;obtain⟨y,y1,y2,y3,y4⟩:=contO_ex h hdE.2.1 hG hX db.lo (dlE b db) ib;obtain⟨x5,x6⟩:=x4 a0;obtain⟨y5,y6⟩:=y4 b0;have hcz:L.cz v L.b<=L.bE:=cz_le hdE.2.1;split
 ·rename_i h0;rw [x1];exact hX x b x5 (low0 b db (Int.le_of_eq h0)) (x6.mono hcz) (ib.mono hbr)
 rename_i hb1';split
 ·rename_i h0;rw [y1];exact hX a y (low0 a da (Int.le_of_eq h0)) y5 (ia.mono hbr) (y6.mono hcz)
 rename_i ha1';rw [x1,y1];simp only;obtain⟨g',hg'⟩:=hX x y x5 y5 (x6.mono hcz) (y6.mono hcz);obtain⟨g,rfl,hg⟩:=hG x y _ hg';obtain⟨p,ep,pp,x0⟩:=cont_prim x2 a0;obtain⟨q,eq,pq,y0⟩:=cont_prim y2 b0;have p0:=prim_ne pp;have q0:=prim_ne pq
 have hxl:∀ z:MP,v=0->hd z=1->Dg (bxf v L.E 0) z->z=1:=fun z e h1 h2=>by
  subst e;obtain⟨r,rfl⟩:=const_of h2.lo0;have hr:r≠0:=fun e=>by rw [e,c_zero] at h1;cases h1
  have h1':=hd_cmul hr 1;have h2':c r*1=c r:=by grind
  rw [h2',h1,hd_one,Rat.one_mul] at h1';rw [<- h1',c_one]
 have ip:=part_size h a0 da.lo da ia ep (x3 x0) (fun e=>hxl x e (x3 x0) x5);have iq:=part_size h b0 db.lo db ib eq (y3 y0) (fun e=>hxl y e (y3 y0) y5);have hop:=overO_ex x0 (ep.trans (mul_cm x p)) da hbd ip x6 hx2;have hoq:=overO_ex y0 (eq.trans (mul_cm y q)) db hbd iq y6 hx2;have hpn:¬ (p.l=[]\/q.l=[]):=fun e=>e.elim (fun e=>p0 (zero_iff.2 e)) fun e=>q0 (zero_iff.2 e);rw [hg',hop,hoq];simp only;rw [if_neg hpn];have dp:Dg (bxf v L.d L.M) p:=da.dvd a0 ⟨x,ep.trans (mul_cm x p)⟩;have dq:Dg (bxf v L.d L.M) q:=db.dvd b0 ⟨y,eq.trans (mul_cm y q)⟩;have hpd:p.deg v=a.deg v:=by rw [ep,deg_mul x0 p0,fr_deg x2.f x0];omega
 have hqd:q.deg v=b.deg v:=by rw [eq,deg_mul y0 q0,fr_deg y2.f y0];omega
 have ha2:=deg_pos a0 v;have hb2:=deg_pos b0 v;have ha3:a.deg v≠0:=ha1';have hb3:b.deg v≠0:=hb1'
 have hs:∃ s:MP,seqO G p.l q.l v=some s.l/\In (L.mu v (2*L.M)) s:=by
  unfold seqO;split
  ·rename_i hlt;have hlt:p.deg v<q.deg v:=hlt;exact seqS_ex h hG hX pq pp dq dp iq ip (by omega) (by omega)
  ·rename_i hlt;have hlt:¬ p.deg v<q.deg v:=hlt;exact seqS_ex h hG hX pp pq dp dq ip iq (by omega) (by omega)
 obtain⟨s,s1,s2⟩:=hs;rw [s1];simp only;have e3:L.mu v 1=L.b1 v:=if_pos rfl;have hfin:=h.fin;have hmu:L.b1 v<=L.mu v (2*L.M):=by rw [<- e3];exact mu_le h (Nat.le_refl _) (by omega) (Nat.le_refl _)
 have wp0:Wp p.l:=wpB_wp (wp_of dp ip hbd (by omega));have wq0:Wp q.l:=wpB_wp (wp_of dq iq hbd (by omega));obtain⟨s',es,hsg⟩:=seqO_ok hG hv wp0 wq0 dp.lo dq.lo pp pq s1;have es':s=s':=MP.eq_of es;subst es';have hgs:g*s∣a:=by rw [ep];exact mul_dvd hg.i.l hsg.l
 have g0:=dvd_ne x0 hg.i.l
 have ig:In L.bE g:=by
  obtain⟨h1,h2⟩:=co_row h da.lo (dlE a da) ia (a.deg v).toNat;have h3:g∣a.lc v:=dvd_trans hg.i.l ((dvd_iff_co x2.f a).1 x2.d _);exact (div_size h (hg.n g0) (lc_ne a0 v) h3 h1 h2).2.mono hcz
 have im:=ig.mul s2;have dm:Dg (bxf v L.d L.M) (g*s):=da.dvd a0 hgs;have hw:=g1_of (wp_of dm im hbd hfin);have hw2:g1 (mulP g.l s.l)=some (g*s).l:=hw;rw [hw2];exact⟨_,normO_ex dm im hbd hfin⟩
theorem gcd_ex0 {b:Nat} (hb:b<LB) {d:Nat->Nat} (hd:∀ w,w<4->d w=0) (n:Nat):Gex d b (gcdN (n+1)):=fun x y dx dy ix iy=>by
 have hbx:bx d<=10000:=by unfold bx;rw [hd 0,hd 1,hd 2,hd 3] <;> omega
 have hc:∀ z:MP,Dg d z->z.l≠[]->constB z.l=true:=fun z dz hz=>by
  have hl:z.lo 0:=fun w _ h4=>by have:=dz w h4;rw [hd w h4] at this;exact this
  obtain⟨r,rfl⟩:=const_of hl;have e:(c r).l=constP r:=rfl;rw [e] at hz ⊢;unfold constP at hz ⊢;split
  ·rename_i h;rw [if_pos h] at hz;exact absurd rfl hz
  ·rfl
 show ∃ r,gcdT (gcdN n) x.l y.l=some r;unfold gcdT;split
 ·exact⟨_,normO_ex dy iy hbx hb⟩
 rename_i h1;split
 ·exact⟨_,normO_ex dx ix hbx hb⟩
 rw [if_pos (.inl (hc x dx h1))];exact⟨_,rfl⟩
theorem Gex.mono {d d':Nat->Nat} {b b':Nat} {G:List Trm->List Trm->Option (List Trm)} (h:Gex d b G) (hd:∀ w,d' w<=d w) (hb:b'<=b):Gex d' b' G:=fun x y dx dy ix iy=>h x y (dx.mono hd) (dy.mono hd) (ix.mono hb) (iy.mono hb)
def Lvs (L:Nat->LvD):Nat->Prop
|0=>LvOk 0 (L 0)
|v+1=>LvOk (v+1) (L (v+1))/\(L (v+1)).E<=(L v).d/\(L (v+1)).E<=(L v).M/\(L (v+1)).bE<=(L v).b/\Lvs L v
theorem gcd_ex {L:Nat->LvD}:∀ (v:Nat),Lvs L v->∀ n,Gex (bxf v (L v).d (L v).M) (L v).b (gcdN (n+v+2))
|0,h,n=>by
  have h0:LvOk 0 (L 0):=h;have hz:∀ w,w<4->bxf 0 (L 0).E 0 w=0:=fun w _=>by unfold bxf;rw [if_neg (by omega)];split <;> rfl
  have hb:(L 0).bE<LB:=by have:=h0.fin;omega
  exact gcdT_ex h0 (gcdN_ok (n+1)) (gcd_ex0 hb hz n) (gcd_ex0 hb hz (n+1))
|v+1,h,n=>by
  obtain⟨h1,h2,h3,h4,h5⟩:=h
  have hd:∀ w,bxf (v+1) (L (v+1)).E 0 w<=bxf v (L v).d (L v).M w:=fun w=>by
   unfold bxf;by_cases a1:w<v
   ·rw [if_pos (by omega),if_pos a1];exact h2
   ·by_cases a2:w=v
    ·rw [if_pos (by omega),if_neg a1,if_pos a2];exact h3
    ·rw [if_neg (by omega),if_neg a1,if_neg a2];split <;> exact Nat.le_refl _
  have g1:=(gcd_ex v h5 n).mono hd h4;have g2:=(gcd_ex v h5 (n+1)).mono hd h4;have e1:n+(v+1)+2=(n+v+2)+1:=by omega
  have e2:n+1+v+2=(n+v+2)+1:=by omega
  rw [e2] at g2;rw [e1];exact gcdT_ex h1 (gcdN_ok _) g1 g2
end Q
