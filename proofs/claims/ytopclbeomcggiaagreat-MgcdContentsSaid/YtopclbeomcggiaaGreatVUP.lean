/- MgcdContents: the plain law. No program in sight. -/
import Derived.Test.YtopclbeomcggiaaGreatC38
namespace Q
open MP Go.Proofs.YtopclbeomcggiaaGreat
def swE (v:Nat) (e:Ex):Ex:=(e.put v (e.get 3)).put 3 (e.get v)
def swX (v:Nat) (x:Pt):Pt:=(x.put v (x.get 3)).put 3 (x.get v)
theorem swE_get {v:Nat} (hv:v<4) (e:Ex):(swE v e).get 3=e.get v/\(swE v e).get v=e.get 3:=by
 obtain rfl|rfl|rfl|rfl:v=0\/v=1\/v=2\/v=3:=by omega
 all_goals exact⟨rfl,rfl⟩
theorem swE_nat {v:Nat} {e:Ex} (h:e.nat=true):(swE v e).nat=true:=Ex.put_nat (Ex.put_nat h v (Ex.nat_get h 3)) 3 (Ex.nat_get h v)
theorem swX_swX {v:Nat} (hv:v<4) (x:Pt):swX v (swX v x)=x:=by
 obtain rfl|rfl|rfl|rfl:v=0\/v=1\/v=2\/v=3:=by omega
 all_goals rfl
theorem mon_sw {v:Nat} (hv:v<4) (x:Pt) (e:Ex):mon x (swE v e)=mon (swX v x) e:=by
 obtain rfl|rfl|rfl|rfl:v=0\/v=1\/v=2\/v=3:=by omega
 all_goals first|rfl|(simp only [mon,swE,swX,Ex.put,Ex.get,Pt.put,Pt.get];grind)
def sw (v:Nat) (p:MP):MP:=⟨canon (p.l.map fun t=>(swE v t.1,t.2)),canon_val _⟩
theorem ev_sw {v:Nat} (hv:v<4) (x:Pt) (p:MP):(sw v p).ev x=p.ev (swX v x):=by
 show Q.ev x (canon _)=Q.ev _ p.l
 rw [ev_canon fun t ht=>by
  obtain⟨s,hs,rfl⟩:=List.mem_map.1 ht
  exact swE_nat (p.v.2 s hs).2]
 unfold Q.ev;exact Lf_map _ _ _ p.l fun t _=>by rw [mon_sw hv]
theorem sw_sw {v:Nat} (hv:v<4) (p:MP):sw v (sw v p)=p:=MP.ext' fun x=>by rw [ev_sw hv,ev_sw hv,swX_swX hv]
theorem sw_mul {v:Nat} (hv:v<4) (p q:MP):sw v (p*q)=sw v p*sw v q:=MP.ext' fun x=>by rw [ev_sw hv,MP.ev_mul,MP.ev_mul,ev_sw hv,ev_sw hv]
theorem sw_dvd {v:Nat} (hv:v<4) {p q:MP} (h:p∣q):sw v p∣sw v q:=by
 obtain⟨k,rfl⟩:=h;exact⟨sw v k,sw_mul hv p k⟩
theorem sw_zero {v:Nat} (hv:v<4):sw v 0=0:=MP.ext' fun x=>by rw [ev_sw hv,MP.ev_zero,MP.ev_zero]
theorem sw_ne {v:Nat} (hv:v<4) {p:MP} (h:p≠0):sw v p≠0:=fun e=>h (by rw [<- sw_sw hv p,e,sw_zero hv])
theorem sw_fr {v u u':Nat} {p:MP} (h:p.fr u) (hg:∀ e:Ex,(swE v e).get u'=e.get u):(sw v p).fr u':=fr_of (canon_ex (P:=fun e=>e.get u'=0) fun t ht=>by
 obtain⟨s,hs,rfl⟩:=List.mem_map.1 ht;show (swE v s.1).get u'=0
 rw [hg];exact fr_get h hs)
theorem cont_sw {v u u':Nat} (hv:v<4) (hg:∀ e:Ex,(swE v e).get u'=e.get u) (hg':∀ e:Ex,(swE v e).get u=e.get u') {g a:MP} (h:IsCont u g a):IsCont u' (sw v g) (sw v a):=by
 refine⟨sw_fr h.f hg,sw_dvd hv h.d,fun d hd hda=>?_⟩;have h1:=h.u (sw v d) (sw_fr hd hg') (by have:=sw_dvd hv hda;rwa [sw_sw hv] at this);have h2:=sw_dvd hv h1;rwa [sw_sw hv] at h2
theorem cont_mul3 {a b g h:MP} (a0:a≠0) (b0:b≠0) (hg:IsCont 3 g a) (hh:IsCont 3 h b):IsCont 3 (g*h) (a*b):=by
 have HG:=hasGcd 3 (by omega);obtain⟨p,ep,pp,g0⟩:=cont_prim hg a0;obtain⟨q,eq,pq,h0⟩:=cont_prim hh b0;have e:a*b=(g*h)*(p*q):=by rw [ep,eq];grind
 refine⟨fr_mul hg.f hh.f,by rw [e];exact dvd_mul_right _ _,fun d hd hda=>?_⟩;exact dvd_fac HG (by omega) (prim_mul HG (by omega) (lo4 p) (lo4 q) pp pq) (by rw [<- e];exact lo4 _) (fr_mul hg.f hh.f) hd (by rw [<- e];exact hda)
theorem cont_mul {v:Nat} (hv:v<4) {a b g h:MP} (a0:a≠0) (b0:b≠0) (hg:IsCont v g a) (hh:IsCont v h b):IsCont v (g*h) (a*b):=by
 have e1:=fun e:Ex=>(swE_get hv e).1;have e2:=fun e:Ex=>(swE_get hv e).2;have:=cont_sw hv e2 e1 (cont_mul3 (sw_ne hv a0) (sw_ne hv b0) (cont_sw hv e1 e2 hg) (cont_sw hv e1 e2 hh));rwa [<- sw_mul hv,<- sw_mul hv,sw_sw hv,sw_sw hv] at this
theorem NC.eqq {v:Nat} {g h a:MP} (hg:NC v g a) (hh:NC v h a):g=h:=by
 have h1:=hh.1.u g hg.1.f hg.1.d;have h2:=hg.1.u h hh.1.f hh.1.d;by_cases h0:g=0
 ·rw [h0] at h1 ⊢;exact (zero_dvd h1).symm
 ·have h3:h≠0:=fun e=>h0 (by rw [e] at h2;exact zero_dvd h2);exact nrm_eq h0 h1 h2 (hg.2 h0) (hh.2 h3)
theorem NC.primm {v:Nat} {g a p k:MP} (hg:NC v g a) (h0:a≠0) (e:a=g*p) (hk:NC v k p):k=1:=by
 obtain⟨q,e2,hq,hg0⟩:=cont_prim hg.1 h0;have hpq:p=q:=cancel hg0 (by rw [<- e,<- e2]);have hu:k.unit:=hq k hk.1.f (hpq ▸ hk.1.d);exact nrm_eq (unit_ne hu) hu (unit_dvd unit_one k) (hk.2 (unit_ne hu)) hd_one
def Rw8 (H:Nat) (l:List Trm):Prop:=∃ f:MP,f.l=l/\Dg D8 f/\In 90 f/\(f=0\/∃ F:MP,F≠0/\f∣F/\Dq H F)
theorem allO_ex8 {H:Nat} (hH:H<=225):∀ (l:List (List Trm)) (acc:MP),(∀ c∈l,Rw8 H c)->(acc=0\/(hd acc=1/\∃ F:MP,F≠0/\acc∣F/\Dq H F))->∃ r,allO (gcdN 6) acc.l l=some r
 | [],acc,_,_=>⟨_,rfl⟩
 | c::l,acc,hl,ha=>by
  obtain⟨f,rfl,df,hf,hF⟩:=hl c (by simp)
  have hacc:Dg D8 acc/\In 90 acc:=by
   rcases ha with e|⟨h1,F,F0,h2,h3⟩
   ·rw [e];exact zero_in
   ·exact nd_in h3 hH F0 h2 h1
  obtain⟨g,hr,hg⟩:=gcd8 hacc.1 df hacc.2 hf;rw [allO,hr];simp only;split
  ·exact⟨_,rfl⟩
  ·refine allO_ex8 hH l g (fun c hc=>hl c (by simp [hc])) ?_;by_cases g0:g=0
   ·exact .inl g0
   ·refine .inr ⟨hg.n g0,?_⟩;rcases hF with f0|⟨F,F0,h2,h3⟩
    ·rcases ha with e|⟨-,F,F0,h2,h3⟩
     ·exact absurd (zero_dvd (hg.i.u 0 (by rw [e];exact dvd_refl 0) (by rw [f0];exact dvd_refl 0))) g0
     ·exact⟨F,F0,dvd_trans hg.i.l h2,h3⟩
    ·exact⟨F,F0,dvd_trans hg.i.r h2,h3⟩
theorem co_dg {d:Nat->Nat} {p:MP} (h:Dg d p) {v:Nat} (hv:v<4) (n:Nat):Dg d (p.co v n):=fun w hw=>co_deg_lt v n p hw hv (h w hw)
theorem Dq.co {H:Nat} {p:MP} (h:Dq H p) {v:Nat} (hv:v<4) (n:Nat):Dq H (p.co v n):=⟨co_dg h.d hv n,h.i.co v n⟩
theorem cont8 {H:Nat} (hH:H<=225) {a:MP} {v:Nat} (hr:∀ n,Rw8 H (a.co v n).l):∃ g:MP,contO (gcdN 6) a.l v=some g.l/\NC v g a:=by
 obtain⟨r,hr⟩:=allO_ex8 hH (coeffsP a.l v) 0 (fun c hc=>by
  obtain⟨n,e⟩:=mem_coeffsP hc
  rw [e];exact hr n) (.inl rfl)
 obtain⟨g,rfl,hg,hn⟩:=contO_ok (gcdN_ok 6) (a:=a) (v:=v) hr;exact⟨g,hr,hg,hn⟩
theorem Dq.rw {H:Nat} (hH:H<=225) {a:MP} (h:Dq H a) {v:Nat} (hv:v<4) (n:Nat):Rw8 H (a.co v n).l:=by
 refine⟨a.co v n,rfl,(h.co hv n).d,(h.co hv n).in90 hH,?_⟩;by_cases h0:a.co v n=0
 ·exact .inl h0
 ·exact .inr ⟨_,h0,dvd_refl _,h.co hv n⟩
theorem nc_zero {v:Nat} {g:MP} (h:NC v g 0):g=0:=zero_dvd (h.1.u 0 (fr_zero v) (dvd_refl 0))
theorem nc_pk {v:Nat} (hv:v<4) {a g:MP} (ha:Dq 15 a) (h:NC v g a):(Dg D8 g/\In 90 g)/\∃ z,0<z/\z<=15/\Pk (szN z) g.l:=by
 by_cases a0:a=0
 ·rw [a0] at h;rw [nc_zero h];exact⟨zero_in,1,by omega,by omega,zero_pk⟩
 ·have g0:=dvd_ne a0 h.1.d;have h1:=(dvd_iff_co h.1.f a).1 h.1.d (a.deg v).toNat;exact⟨nd_in (ha.co hv _) (by omega) (lc_ne a0 v) h1 (h.2 g0),nd_pk (ha.co hv _) (by omega) (lc_ne a0 v) h1 (h.2 g0)⟩
theorem c_ex {a b:MP} (ha:Dm a) (hb:Dm b) {v:Nat} (hv:v<4):∃ g h p:MP,∃ zg zh:Nat,contO (gcdN 6) a.l v=some g.l/\contO (gcdN 6) b.l v=some h.l/\primO (gcdN 6) a.l v=some p.l/\Wp a.l/\Wp b.l /\
  0<zg/\zg<=15/\Pk (szN zg) g.l/\0<zh/\zh<=15/\Pk (szN zh) h.l/\Pk (szN 1) p.l/\(a=0->g=0/\p=0) /\
  (a≠0->a=g*p/\g.deg v=0/\Wp p.l/\contO (gcdN 6) p.l v=some (1:MP).l/\Wp (a*b).l/\contO (gcdN 6) (a*b).l v=some (g*h).l):=by
 have qa:=ha.dq;have qb:=hb.dq;have qab:=ha.mul hb;obtain⟨g,e1,hg⟩:=cont8 (a:=a) (v:=v) (by omega) fun n=>qa.rw (by omega) hv n;obtain⟨h,e2,hh⟩:=cont8 (a:=b) (v:=v) (by omega) fun n=>qb.rw (by omega) hv n;obtain⟨k,e3,hk⟩:=cont8 (a:=a*b) (v:=v) (Nat.le_refl 225) fun n=>qab.rw (Nat.le_refl 225) hv n;obtain⟨⟨dg,ig⟩,zg,g1,g2,g3⟩:=nc_pk hv qa hg;obtain⟨-,zh,h1,h2,h3⟩:=nc_pk hv qb hh;have wa:=wp8 qa.d (qa.in90 (by omega));have wb:=wp8 qb.d (qb.in90 (by omega));by_cases a0:a=0
 ·have hg0:g=0:=by rw [a0] at hg;exact nc_zero hg
  refine⟨g,h,0,zg,zh,e1,e2,by rw [a0];rfl,wa,wb,g1,g2,g3,h1,h2,h3,zero_pk,fun _=>⟨hg0,rfl⟩,fun h=>absurd a0 h⟩
 ·have g0:=dvd_ne a0 hg.1.d;obtain⟨p,ep,pp,-⟩:=cont_prim hg.1 a0;obtain⟨z,z1,z2,-,ip⟩:=nd_ind qa a0 ep (hg.2 g0);have hz:=Nat.mul_le_mul_right (2 ^ 72*15) z2;have dp:Dg D8 p:=qa.d.dvd a0 ⟨g,ep.trans (mul_cm g p)⟩;have inp:In 90 p:=⟨1,_,by omega,Nat.one_le_two_pow,Nat.le_trans hz (by decide +kernel),ip⟩;have hov:=overO_ex g0 (ep.trans (mul_cm g p)) qa.d (by rw [bx8];omega) inp ig (by rw [LB_eq];omega)
  obtain⟨r,e4,hr⟩:=cont8 (a:=p) (v:=v) (H:=15) (by omega) fun n=>by
   refine⟨p.co v n,rfl,co_dg dp hv n,inp.co v n,?_⟩;by_cases h0:p.co v n=0
   ·exact .inl h0
   ·have e5:a.co v n=g*p.co v n:=by rw [ep,co_mul_fr hg.1.f]
    exact .inr ⟨a.co v n,by rw [e5];exact mul_ne g0 h0,by rw [e5];exact dvd_mul_left _ _,qa.co hv n⟩
  have hr1:=hg.primm a0 ep hr;rw [hr1] at e4
  have hpr:primO (gcdN 6) a.l v=some p.l:=by
   obtain⟨t,l,el⟩:=head_ex a0;rw [el] at hov e1 ⊢;rw [primO];simp only [e1];exact hov
  have hke:k=g*h:=by
   by_cases b0:b=0
   ·have h0:h=0:=by rw [b0] at hh;exact nc_zero hh
    have e6:a*b=0:=by rw [b0];grind
    rw [e6] at hk;rw [nc_zero hk,h0];grind
   ·have h0:=dvd_ne b0 hh.1.d;exact hk.eqq ⟨cont_mul hv a0 b0 hg.1 hh.1,fun _=>by rw [hd_mul g0 h0,hg.2 g0,hh.2 h0];exact Rat.mul_one 1⟩
  rw [hke] at e3
  exact⟨g,h,p,zg,zh,e1,e2,hpr,wa,wb,g1,g2,g3,h1,h2,h3,⟨p.v,ind_bd ip (by omega) dp (Nat.le_trans hz (by decide +kernel)),szN_ok (by omega) (by omega)⟩,fun h=>absurd h a0,
   fun _=>⟨ep,fr_deg hg.1.f g0,wp8 dp inp,e4,wp8 qab.d (qab.in90 (by omega)),e3⟩⟩
end Q
