/- Where it answers, the program's greatest common divisor is the normal greatest common divisor. No program in sight. Plain laws of normal greatest common divisors and contents. No program in sight. Sizes of polynomials: denominators and sums of absolute values. No program in sight. Small polynomials pass the tests; divisions answer. No program in sight. A division of small polynomials ends, whether or not it is exact. No program in sight. Pseudo-divisions of small polynomials answer; the size of the pseudo-remainder. No program in sight. -/
import Derived.Test.YtopclbeomcggiaaGreatE32
import Derived.Test.YtopclbeomcggiaaGreatE33
set_option linter.unusedVariables false
set_option linter.unusedSimpArgs false
set_option maxHeartbeats 16000000
set_option maxRecDepth 100000
section
namespace Q
open MP Go.Proofs.YtopclbeomcggiaaGreat
structure NG (g a b:MP):Prop where
 i:IsGcd g a b
 n:g≠0->hd g=1
theorem oneP_eq:oneP=(1:MP).l:=by
 show [(e0,(1:Rat))]=constP ((1:Nat):Rat);rw [show ((1:Nat):Rat)=1 from rfl,constP,if_neg (by decide)]
theorem mul_cm (a b:MP):a*b=b*a:=by grind
theorem hd_one:hd 1=1:=by unfold hd;rw [<- oneP_eq];rfl
theorem isGcd_unit {a b:MP} (h:a.unit\/b.unit):IsGcd 1 a b :=
 ⟨unit_dvd unit_one a,unit_dvd unit_one b,fun d h1 h2=>h.elim (fun h=>unit_of_dvd h1 h) fun h=>unit_of_dvd h2 h⟩
theorem isGcd_nrm {g a b:MP} (h:IsGcd g a b) (h0:g≠0):IsGcd (nrm g) a b:=by
 obtain⟨h1,h2⟩:=nrm_dvd h0;exact⟨dvd_trans h1 h.l,dvd_trans h1 h.r,fun d x y=>dvd_trans (h.u d x y) h2⟩
theorem nrm_ne {g:MP} (h:g≠0):nrm g≠0:=dvd_ne h (nrm_dvd h).1
theorem isGcd_ne {g a b:MP} (h:IsGcd g a b) (h0:a≠0):g≠0:=dvd_ne h0 h.l
theorem constB_unit {g:MP} (h:constB g.l=true):g.unit:=by
 obtain⟨l,v⟩:=g
 cases l with
|nil=>cases h
|cons t l =>
  cases l with
 |cons _ _=>cases h
 |nil =>
   have he:t.1=e0:=of_decide_eq_true h
   have:(⟨[t],v⟩:MP)=c t.2:=MP.eq_of (by
    show [t]=constP t.2
    rw [constP,if_neg (v.2 t (by simp)).1,<- he])
   rw [this];exact c_unit (v.2 t (by simp)).1
def Gok (G:List Trm->List Trm->Option (List Trm)):Prop:=∀ (a b:MP) (r:List Trm),G a.l b.l=some r->∃ g:MP,r=g.l/\NG g a b
theorem allO_ok {G:List Trm->List Trm->Option (List Trm)} (hG:Gok G):∀ (L:List (List Trm)) (acc:MP) (r:List Trm),VldA L->(acc≠0->hd acc=1)->allO G acc.l L=some r ->
  ∃ g:MP,r=g.l/\g∣acc/\(∀ (f:MP),f.l∈L->g∣f)/\(∀ d,d∣acc->(∀ f:MP,f.l∈L->d∣f)->d∣g)/\(g≠0->hd g=1)
|[],acc,r,_,hn,h=>by
  simp only [allO,Option.some.injEq] at h;exact⟨acc,h.symm,dvd_refl _,fun f hf=>(by cases hf),fun d h _=>h,hn⟩
|a::L,acc,r,hv,hn,h=>by
  rw [allO] at h;have ha:Vld a:=hv a (by simp);split at h
  ·cases h
  ·rename_i g0 hg0;obtain⟨g,rfl,hg⟩:=hG acc ⟨a,ha⟩ g0 hg0;have hfa:∀ f:MP,f.l=a->f=⟨a,ha⟩:=fun f e=>MP.eq_of e;split at h
   ·rename_i hc;simp only [Option.some.injEq] at h;have hu:=constB_unit hc;refine⟨g,h.symm,hg.i.l,fun f _=>unit_dvd hu f,fun d h1 h2=>hg.i.u d h1 (h2 ⟨a,ha⟩ (by simp)),hg.n⟩
   ·obtain⟨k,e,k1,k2,k3,k4⟩:=allO_ok hG L g r (fun c hc=>hv c (by simp [hc])) hg.n h;refine⟨k,e,dvd_trans k1 hg.i.l,fun f hf=>?_,fun d h1 h2=>k3 d (hg.i.u d h1 (h2 ⟨a,ha⟩ (by simp))) fun f hf=>h2 f (by simp [hf]),k4⟩;rcases List.mem_cons.1 hf with e|hf
    ·rw [hfa f e];exact dvd_trans k1 hg.i.r
    ·exact k2 f hf
theorem contO_ok {G:List Trm->List Trm->Option (List Trm)} (hG:Gok G) {a:MP} {v:Nat} {r:List Trm} (h:contO G a.l v=some r):∃ g:MP,r=g.l/\IsCont v g a/\(g≠0->hd g=1):=by
 obtain⟨g,e,h1,h2,h3,h4⟩:=allO_ok hG _ (0:MP) r (coeffs_vld a.v v) (fun h=>absurd rfl h) h
 have hco:∀ n,g∣a.co v n:=fun n=>by
  rcases Nat.lt_or_ge n (degP a.l v+1).toNat with hn|hn
  ·refine h2 _ ?_;show coeffP a.l v n∈coeffsP a.l v;exact List.mem_map.2 ⟨n,List.mem_range.2 hn,rfl⟩
  ·rw [co_above (by have e:a.deg v=degP a.l v:=rfl;have:=deg_ge v a;omega)];exact dvd_zero g
 have hf:g.fr v:=by
  by_cases ha:a=0
  ·have:g=0:=by
    have h5:=h3 0 (dvd_refl 0) fun f hf=>by
     rw [ha] at hf;cases hf
    exact zero_dvd h5
   rw [this];exact fr_zero v
  ·exact fr_dvd (lc_ne ha v) (hco _) (lc_fr v a)
 refine⟨g,e,⟨hf,(dvd_iff_co hf a).2 hco,fun d hd hda=>h3 d (dvd_zero d) fun f hf=>?_⟩,h4⟩;obtain⟨n,hn⟩:=mem_coeffsP hf;have:f=a.co v n:=MP.eq_of hn;rw [this];exact (dvd_iff_co hd a).1 hda n
theorem primO_ok {G:List Trm->List Trm->Option (List Trm)} (hG:Gok G) {a:MP} {v:Nat} {r:List Trm} (h0:a≠0) (h:primO G a.l v=some r):∃ c q:MP,r=q.l/\a=c*q/\c≠0/\c.fr v/\q.prim v:=by
 obtain⟨t,l,hl⟩:=head_ex h0;unfold primO at h;rw [hl] at h;simp only at h;rw [<- hl] at h;split at h
 ·cases h
 ·rename_i c0 hc;obtain⟨g,rfl,hg,_⟩:=contO_ok hG hc;obtain⟨q,e,hq,hg0⟩:=cont_prim hg h0;exact⟨g,q,overO_eq (q:=q) hg0 (e.trans (mul_cm g q)) h,e,hg0,hg.f,hq⟩
theorem lc_pow_lo {v:Nat} (hv:v<4) {b:MP} (hb:b.lo (v+1)):∀ s:Nat,((b.lc v) ^ s).lo v
|0=>by
  have e:(b.lc v) ^ 0=1:=by grind
  rw [e];exact lo_one v
|s+1=>by
  have e:(b.lc v) ^ (s+1)=(b.lc v) ^ s*b.lc v:=by grind
  rw [e];exact lo_mul (lc_pow_lo hv hb s) (lo_lc hv hb)
theorem pow_ne {b:MP} (hb:b≠0):∀ s:Nat,b ^ s≠0
|0=>by
  have e:b ^ 0=1:=by grind
  rw [e];exact one_ne
|s+1=>by
  have e:b ^ (s+1)=b ^ s*b:=by grind
  rw [e];exact mul_ne (pow_ne hb s) hb
theorem lo_of_eq {n:Nat} {a b c:MP} (hb:b≠0) (hc:c≠0) (e:a=b*c) (h:a.lo n):c.lo n:=lo_dvd (by rw [e];exact mul_ne hb hc) (by rw [e];exact dvd_mul_left _ _) h
theorem nrm_lo {n:Nat} {a:MP} (h:a.lo n):(nrm a).lo n:=by
 by_cases h0:a=0
 ·rw [h0,nrm_zero];exact lo_zero n
 ·exact lo_dvd h0 (nrm_dvd h0).1 h
theorem prem_lo {v:Nat} (hv:v<4) {a b q:MP} {s:Nat} (e:(b.lc v) ^ s*a=q*b+prem v a b) (hb0:b≠0) (ha:a.lo (v+1)) (hb:b.lo (v+1)):(prem v a b).lo (v+1):=fun w h1 h2=>by
 -- the pseudo-remainder is made of the coefficients by ring operations
 have hA:∀ L:List (List Trm),(∀ c∈L,∀ t∈c,t.1.get w=0)->∀ D:List (List Trm),(∀ c∈D,∀ t∈c,t.1.get w=0)->∀ f,∀ c∈psRun D f L,∀ t∈c,t.1.get w=0:=fun L hL D hD f=>psRun_fr (v:=w) hD f L hL
 have hco:∀ p:MP,p.lo (v+1)->∀ c∈coeffsP p.l v,∀ t∈c,t.1.get w=0:=fun p hp c hc t ht=>by
  obtain⟨n,rfl⟩:=mem_coeffsP hc;obtain⟨u,hu,rfl⟩:=List.mem_map.1 ht;show (u.1.put v 0).get w=0;rw [Ex.get_put_ne _ hv h2 (by omega)];exact fr_get (hp w h1 h2) (List.mem_filter.1 hu).1
 have h3:=hA _ (hco a ha) _ (hco b hb) (coeffsP a.l v).length;refine fr_of ?_
 have hL:∀ (L:List (List Trm)) (i:Nat),(∀ c∈L,∀ t∈c,t.1.get w=0)->∀ t∈fromL v i L,t.1.get w=0:=fun L=>by
  induction L with
 |nil=>intro i _ t ht;cases ht
 |cons c L ih =>
   intro i h t ht;simp only [fromL,List.mem_append] at ht;rcases ht with ht|ht
   ·obtain⟨u,hu,rfl⟩:=List.mem_map.1 ht;show (u.1.put v _).get w=0;rw [Ex.get_put_ne _ hv h2 (by omega)];exact h c (by simp) u hu
   ·exact ih (i+1) (fun c hc=>h c (by simp [hc])) t (by simpa using ht)
 exact canon_ex (P:=fun e=>e.get w=0) (hL _ 0 h3)
theorem seqGo_ok {G:List Trm->List Trm->Option (List Trm)} (hG:Gok G) {v:Nat} (hv:v<4):∀ (n:Nat) (a b:MP) (r:List Trm),a.lo (v+1)->b.lo (v+1)->a.prim v->b.prim v->seqGo G v n a.l b.l=some r->∃ s:MP,r=s.l/\IsGcd s a b
|0,_,_,_,_,_,_,_,h=>by cases h
|n+1,a,b,r,la,lb,pa,pb,h=>by
  have HG:=hasGcd v (by omega);have b0:=prim_ne pb;have a0:=prim_ne pa;rw [seqGo] at h;obtain⟨q,s,e,hdeg⟩:=prem_spec (a:=a) b0 v;have hls:=lc_pow_lo hv lb s;have hls0:=pow_ne (lc_ne b0 v) s;have hlr:=prem_lo hv e b0 la lb;have hback:∀ d:MP,d.prim v->d∣b->d∣prem v a b->d∣a:=fun d pd h1 h2=>prim_dvd_of HG hv la pd hls hls0 (by rw [e];exact dvd_add (dvd_mul_of' h1 q) h2)
  have hrem:∀ d:MP,d∣a->d∣b->d∣prem v a b:=fun d h1 h2=>by
   have e2:prem v a b=(b.lc v) ^ s*a-q*b:=by rw [e];grind
   rw [e2];exact dvd_sub (dvd_mul_of' h1 _) (dvd_mul_of' h2 _)
  split at h
  ·cases h
  ·rename_i hp;have hz:=(psO_eq hp).1;simp only [Option.some.injEq] at h;have hz0:prem v a b=0:=zero_iff.2 hz.symm;exact⟨b,h.symm,hback b pb (dvd_refl b) (by rw [hz0];exact dvd_zero b),dvd_refl b,fun d _ h=>h⟩
  ·rename_i t l hp;have hz:=(psO_eq hp).1;have hz0:prem v a b≠0:=fun h0=>by rw [zero_iff.1 h0] at hz;cases hz
   split at h
   ·rename_i hd0;simp only [Option.some.injEq] at h;have hfr:(prem v a b).deg v=0:=by show degP (prem v a b).l v=0;rw [<- hz];exact hd0
    refine⟨1,by rw [<- h,oneP_eq],unit_dvd unit_one a,unit_dvd unit_one b,fun d h1 h2=>?_⟩;have hd:=dvd_deg hz0 (hrem d h1 h2) v;exact pb d (by show d.deg v<=0;omega) h2
   ·rw [hz] at h;split at h
    ·cases h
    ·rename_i p hpr;obtain⟨c,q',rfl,ec,c0,cf,hq⟩:=primO_ok hG hz0 hpr;split at h
     ·cases h
     ·rename_i k hk;have hk:=normO_eq hk;subst hk;have q0:=prim_ne hq;have lq:=lo_of_eq c0 q0 ec hlr;obtain⟨nd1,nd2⟩:=nrm_dvd q0;obtain⟨x,ex,hx⟩:=seqGo_ok hG hv n b (nrm q') r lb (nrm_lo lq) pb (prim_dvd hq nd1) h;have lc':c.lo v:=lo_of_fr (lo_dvd hz0 (by rw [ec];exact dvd_mul_right _ _) hlr) cf;refine⟨x,ex,hback x (prim_dvd pb hx.l) hx.l ?_,hx.l,fun d h1 h2=>hx.u d h2 (dvd_trans ?_ nd2)⟩
      ·rw [ec];exact dvd_mul_of' (dvd_trans hx.r nd1) c
      ·exact prim_dvd_of HG hv lq (prim_dvd pb h2) lc' c0 (by rw [<- ec];exact hrem d h1 h2)
theorem seqS_ok {G:List Trm->List Trm->Option (List Trm)} (hG:Gok G) {v:Nat} (hv:v<4) {a b:MP} {r:List Trm} (wa:Wp a.l) (wb:Wp b.l) (la:a.lo (v+1)) (lb:b.lo (v+1)) (pa:a.prim v) (pb:b.prim v) (h:seqS G a.l b.l v=some r):∃ s:MP,r=s.l/\IsGcd s a b:=by
 have a0:=prim_ne pa;have b0:=prim_ne pb;have hex:∀ p:MP,Wp p.l->∀ m∈p.l,∀ w,m.1.get w<18446744073709551616:=fun p hp m hm w=>by have:=(hp.exps hm w).2;omega
 unfold seqS at h;split at h
 ·cases h
 ·rename_i m hm;have hbd:∀ d:MP,d∣a->d∣b->d.deg v<=m:=fun d h1 h2=>boundGo_deg hv a0 b0 (hex a wa) (hex b wb) h1 h2 hm;split at h
  ·rename_i hm0;simp only [Option.some.injEq] at h;refine⟨1,by rw [<- h,oneP_eq],unit_dvd unit_one a,unit_dvd unit_one b,fun d h1 h2=>pa d (by have:=hbd d h1 h2;show d.deg v<=0;omega) h1⟩
  ·split at h
   ·cases h
   ·rename_i o ho;split at h
    ·rename_i hc;simp only [Option.some.injEq] at h;rw [Bool.and_eq_true] at hc
     cases o with
    |none=>cases hc.1
    |some res =>
      obtain⟨t,l,hl⟩:=head_ex b0;have ho':=ho;unfold divW at ho';rw [hl] at ho';simp only at ho';obtain⟨h1,h2⟩:=divO_some (hl ▸ b.v) rfl a.v NatL.nil ho'
      have hd:b∣a:=by
       refine⟨⟨canon res,canon_val _⟩,MP.ext' fun x=>?_⟩;have:=h2 x;rw [ev_nil,<- hl] at this;rw [MP.ev_mul];show ev x a.l=ev x b.l*ev x (canon res);rw [ev_canon h1];grind
      exact⟨b,h.symm,hd,dvd_refl b,fun d _ h=>h⟩
    ·exact seqGo_ok hG hv _ a b r la lb pa pb h
theorem isGcd_swap {g a b:MP} (h:IsGcd g a b):IsGcd g b a:=⟨h.r,h.l,fun d x y=>h.u d y x⟩
theorem seqO_ok {G:List Trm->List Trm->Option (List Trm)} (hG:Gok G) {v:Nat} (hv:v<4) {a b:MP} {r:List Trm} (wa:Wp a.l) (wb:Wp b.l) (la:a.lo (v+1)) (lb:b.lo (v+1)) (pa:a.prim v) (pb:b.prim v) (h:seqO G a.l b.l v=some r):∃ s:MP,r=s.l/\IsGcd s a b:=by
 unfold seqO at h;split at h
 ·obtain⟨s,e,hs⟩:=seqS_ok hG hv wb wa lb la pb pa h;exact⟨s,e,isGcd_swap hs⟩
 ·exact seqS_ok hG hv wa wb la lb pa pb h
theorem highN_ok (a b:MP):∀ (n:Nat),n<=4->(∀ w,n<=w->w<4->a.fr w/\b.fr w)->∀ v,highN [a.l,b.l] n=some v->v<4/\a.lo (v+1)/\b.lo (v+1)
|0,_,_,v,h=>by cases h
|n+1,hn,hf,v,h=>by
  rw [highN] at h;split at h
  ·simp only [Option.some.injEq] at h;subst h;exact⟨by omega,fun w h1 h2=>(hf w h1 h2).1,fun w h1 h2=>(hf w h1 h2).2⟩
  ·rename_i hc;refine highN_ok a b n (by omega) (fun w h1 h2=>?_) v h;rcases Nat.eq_or_lt_of_le h1 with e|hlt
   ·subst e;simp only [List.any_cons,List.any_nil,Bool.or_false,Bool.or_eq_true,decide_eq_true_eq,not_or] at hc;exact⟨by show degP a.l n<=0;omega,by show degP b.l n<=0;omega⟩
   ·exact hf w hlt h2
theorem overO_wp {a b r:List Trm} (h:overO a b=some r):Wp r:=by
 unfold overO at h;split at h
 ·have:=g1_some h;rw [this.1];exact this.2
 ·cases h
theorem bind2_sm {α β:Type} {o:Option α} {f:α->Option β} {y:β} (h:bind2 o f=some y):∃ x,o=some x/\f x=some y:=by
 cases o with
|none=>cases h
|some x=>exact⟨x,rfl,h⟩
theorem gcdS_ok {G:List Trm->List Trm->Option (List Trm)} (hG:Gok G):Gok (gcdS G):=fun a b r h=>by
 unfold gcdS at h;split at h
 ·rename_i ha;have ha:=zero_iff.2 ha;refine⟨nrm b,normO_eq h,?_,fun hne=>hd_nrm fun h0=>hne (by rw [h0,nrm_zero])⟩;by_cases hb:b=0
  ·rw [hb,nrm_zero,ha];exact⟨dvd_refl _,dvd_refl _,fun d h _=>h⟩
  ·exact⟨by rw [ha];exact dvd_zero _,(nrm_dvd hb).1,fun d _ h=>dvd_trans h (nrm_dvd hb).2⟩
 ·rename_i ha;have a0:a≠0:=fun h=>ha (zero_iff.1 h);split at h
  ·rename_i hb;have hb:=zero_iff.2 hb;exact⟨nrm a,normO_eq h,⟨(nrm_dvd a0).1,by rw [hb];exact dvd_zero _,fun d h _=>dvd_trans h (nrm_dvd a0).2⟩,fun _=>hd_nrm a0⟩
  ·rename_i hb;have b0:b≠0:=fun h=>hb (zero_iff.1 h);split at h
   ·rename_i hc;simp only [Option.some.injEq] at h;exact⟨1,by rw [<- h,oneP_eq],isGcd_unit (hc.imp constB_unit constB_unit),fun _=>hd_one⟩
   ·obtain⟨v,hv,h⟩:=bind2_sm h;obtain⟨v4,la,lb⟩:=highN_ok a b 4 (by omega) (fun w h1 h2=>by omega) v hv;have HG:=hasGcd v (by omega);split at h
    ·rename_i hd;obtain⟨c,hc,h⟩:=bind2_sm h;obtain⟨k,rfl,hk,_⟩:=contO_ok hG hc;obtain⟨g,e,hg⟩:=hG k b r h;have hbf:b.fr v:=Int.le_of_eq hd;exact⟨g,e,⟨dvd_trans hg.i.l hk.d,hg.i.r,fun d h1 h2=>hg.i.u d (hk.u d (fr_dvd b0 h2 hbf) h1) h2⟩,hg.n⟩
    ·split at h
     ·rename_i hd;obtain⟨c,hc,h⟩:=bind2_sm h;obtain⟨k,rfl,hk,_⟩:=contO_ok hG hc;obtain⟨g,e,hg⟩:=hG a k r h;have haf:a.fr v:=Int.le_of_eq hd;exact⟨g,e,⟨hg.i.l,dvd_trans hg.i.r hk.d,fun d h1 h2=>hg.i.u d h1 (hk.u d (fr_dvd a0 h1 haf) h2)⟩,hg.n⟩
     ·obtain⟨x0,hx,h⟩:=bind2_sm h;obtain⟨y0,hy,h⟩:=bind2_sm h;obtain⟨g0,hg0,h⟩:=bind2_sm h;obtain⟨p0,hp,h⟩:=bind2_sm h;obtain⟨q0,hq,h⟩:=bind2_sm h;obtain⟨s0,hs,h⟩:=bind2_sm h;obtain⟨m0,hm,h⟩:=bind2_sm h;obtain⟨x,rfl,ix,_⟩:=contO_ok hG hx;obtain⟨y,rfl,iy,_⟩:=contO_ok hG hy;obtain⟨g,rfl,hg⟩:=hG x y _ hg0;obtain⟨p,ep,pp,x00⟩:=cont_prim ix a0;obtain⟨q,eq,pq,y00⟩:=cont_prim iy b0;have wp0:=overO_wp hp;have wq0:=overO_wp hq;have e1:=overO_eq (q:=p) x00 (ep.trans (mul_cm x p)) hp;have e2:=overO_eq (q:=q) y00 (eq.trans (mul_cm y q)) hq;subst e1;subst e2;have lp:=lo_of_eq x00 (prim_ne pp) ep la;have lq:=lo_of_eq y00 (prim_ne pq) eq lb;obtain⟨s,rfl,hsg⟩:=seqO_ok hG v4 wp0 wq0 lp lq pp pq hs;have hm:m0=(g*s).l:=(g1_some hm).1;subst hm;have lx:x.lo v:=lo_of_fr (lo_dvd a0 (by rw [ep];exact dvd_mul_right _ _) la) ix.f;have ly:y.lo v:=lo_of_fr (lo_dvd b0 (by rw [eq];exact dvd_mul_right _ _) lb) iy.f
      have hall:IsGcd (g*s) a b:=by
       refine⟨by rw [ep];exact mul_dvd hg.i.l hsg.l,by rw [eq];exact mul_dvd hg.i.r hsg.r,fun d h1 h2=>?_⟩;have d0:=dvd_ne a0 h1;obtain⟨e,z,rfl,he,e0',pz',lz,_⟩:=split_prim HG v4 (lo_dvd a0 h1 la) d0;have hef:e.fr v:=he v (Nat.le_refl _) v4;refine mul_dvd (hg.i.u e ?_ ?_) (hsg.u z ?_ ?_)
       ·exact ix.u e hef (dvd_trans (dvd_mul_right _ _) h1)
       ·exact iy.u e hef (dvd_trans (dvd_mul_right _ _) h2)
       ·exact prim_dvd_of HG v4 lp pz' lx x00 (by rw [<- ep];exact dvd_trans (dvd_mul_left _ _) h1)
       ·exact prim_dvd_of HG v4 lq pz' ly y00 (by rw [<- eq];exact dvd_trans (dvd_mul_left _ _) h2)
      have hne:=isGcd_ne hall a0;exact⟨nrm (g*s),normO_eq h,isGcd_nrm hall hne,fun _=>hd_nrm hne⟩
end Q
end
section
namespace Q
open MP
theorem hd_eq {a:MP} {t:Trm} {l:List Trm} (h:a.l=t::l):hd a=t.2:=by unfold hd;rw [h]
theorem hd_mul {a b:MP} (ha:a≠0) (hb:b≠0):hd (a*b)=hd a*hd b:=by
 obtain⟨s,l,hs⟩:=head_ex ha;obtain⟨t,r,ht⟩:=head_ex hb;have va:Vld (s::l):=hs ▸ a.v;have vb:Vld (t::r):=ht ▸ b.v;obtain⟨h1,h2⟩:=mul_top va vb;have hz:=rmul_ne (va.2 s (by simp)).1 (vb.2 t (by simp)).1;obtain⟨m,hm⟩:=head_is (Vld.mul _ _) hz h1 h2;have e:(a*b).l=mulP (s::l) (t::r):=by show mulP a.l b.l=_;rw [hs,ht]
 rw [hd_eq (e.trans hm),hd_eq hs,hd_eq ht]
theorem NG.coprime {g k a b p q:MP} (h:NG g a b) (hg0:g≠0) (ea:a=g*p) (eb:b=g*q) (hk:NG k p q):k=1:=by
 have h1:g*k∣g*1:=by
  have e:g*1=g:=by grind
  rw [e];exact h.i.u _ (by rw [ea];exact mul_dvd (dvd_refl g) hk.i.l) (by rw [eb];exact mul_dvd (dvd_refl g) hk.i.r)
 have hu:k.unit:=dvd_cancel hg0 h1;exact nrm_eq (unit_ne hu) hu (unit_dvd unit_one k) (hk.n (unit_ne hu)) hd_one
def NC (v:Nat) (g a:MP):Prop:=IsCont v g a/\(g≠0->hd g=1)
end Q
end
section
namespace Q
open MP Go.Proofs.YtopclbeomcggiaaGreat
structure Ind (D H:Nat) (p:MP):Prop where
 d:p.dv D
 a:(D:Rat)*p.am<=(H:Rat)
def In (b:Nat) (p:MP):Prop:=∃ D H,0<D/\D<=2 ^ b/\H<=2 ^ b/\Ind D H p
theorem nr_nonneg (n:Nat):(0:Rat)<=(n:Rat):=Rat.natCast_nonneg
theorem nr_le {m n:Nat} (h:m<=n):(m:Rat)<=(n:Rat):=Rat.natCast_le_natCast.2 h
theorem Ind.mono {D H H':Nat} {p:MP} (h:Ind D H p) (hH:H<=H'):Ind D H' p:=⟨h.d,Rat.le_trans h.a (nr_le hH)⟩
theorem Ind.mul {D H D' H':Nat} {p q:MP} (h:Ind D H p) (h':Ind D' H' q):Ind (D*D') (H*H') (p*q):=by
 refine⟨dv_mul h.d h'.d,?_⟩;have h1:=Rat.mul_le_mul_of_nonneg_left (am_mul p q) (nr_nonneg (D*D'));have h2:=rmul_le h.a h'.a (Rat.mul_nonneg (nr_nonneg D) p.am_nonneg) (nr_nonneg H');rw [Rat.natCast_mul] at h1 ⊢;rw [Rat.natCast_mul];grind
theorem Ind.sub {D H H':Nat} {p q:MP} (h:Ind D H p) (h':Ind D H' q):Ind D (H+H') (p-q):=by
 refine⟨dv_sub h.d h'.d,?_⟩;have h1:=Rat.mul_le_mul_of_nonneg_left (am_sub p q) (nr_nonneg D);have h2:=h.a;have h3:=h'.a;rw [Rat.natCast_add];grind
theorem Ind.up {D H:Nat} {p:MP} (h:Ind D H p) (K:Nat):Ind (D*K) (H*K) p:=by
 refine⟨dv_mono (Nat.dvd_mul_right _ _) h.d,?_⟩;have:=Rat.mul_le_mul_of_nonneg_right h.a (nr_nonneg K);rw [Rat.natCast_mul,Rat.natCast_mul];grind
theorem am_co (v n:Nat) (p:MP):(p.co v n).am<=p.am:=by
 have e:asum (coeffP p.l v n)=asum (p.l.filter fun t=>t.1.get v=(n:Int)):=by
  unfold coeffP;generalize p.l.filter _=l
  induction l with
 |nil=>rfl
 |cons u l ih=>simp only [List.map_cons,asum,ih]
 show asum (coeffP p.l v n)<=asum p.l;rw [e]
 have h2:∀ l:List Trm,asum (l.filter fun t=>t.1.get v=(n:Int))<=asum l:=fun l=>by
  induction l with
 |nil=>exact Rat.le_refl
 |cons t l ih =>
   have:=rabs_nonneg t.2;rw [List.filter_cons];split <;> simp only [asum] <;> grind
 exact h2 p.l
theorem Ind.co {D H:Nat} {p:MP} (h:Ind D H p) (v n:Nat):Ind D H (p.co v n) :=
 ⟨co_dv h.d v n,Rat.le_trans (Rat.mul_le_mul_of_nonneg_left (am_co v n p) (nr_nonneg D)) h.a⟩
theorem asum_sublist {l r:List Trm} (h:r.Sublist l):asum r<=asum l:=by
 induction h with
|slnil=>exact Rat.le_refl
|cons t _ ih=>have:=rabs_nonneg t.2;simp only [asum];grind
|cons_cons t _ ih=>simp only [asum];grind
theorem Ind.part {D H:Nat} {p q:MP} (h:Ind D H p) (hs:q.l.Sublist p.l):Ind D H q :=
 ⟨fun t ht=>h.d t (hs.subset ht),Rat.le_trans (Rat.mul_le_mul_of_nonneg_left (asum_sublist hs) (nr_nonneg D)) h.a⟩
theorem Ind.zero (D H:Nat):Ind D H 0:=⟨dv_zero D,by rw [am_zero,Rat.mul_zero];exact nr_nonneg H⟩
namespace In
variable {b c:Nat} {p q:MP}
theorem mono (h:In b p) (hb:b<=c):In c p:=by
 obtain⟨D,H,h1,h2,h3,h4⟩:=h;have:=Nat.pow_le_pow_right (show 0<2 by omega) hb;exact⟨D,H,h1,by omega,by omega,h4⟩
theorem mul (h:In b p) (h':In c q):In (b+c) (p*q):=by
 obtain⟨D,H,h1,h2,h3,h4⟩:=h;obtain⟨D',H',k1,k2,k3,k4⟩:=h';refine⟨D*D',H*H',Nat.mul_pos h1 k1,?_,?_,h4.mul k4⟩
 ·rw [Nat.pow_add];exact Nat.mul_le_mul h2 k2
 ·rw [Nat.pow_add];exact Nat.mul_le_mul h3 k3
theorem co (h:In b p) (v n:Nat):In b (p.co v n):=by
 obtain⟨D,H,h1,h2,h3,h4⟩:=h;exact⟨D,H,h1,h2,h3,h4.co v n⟩
theorem part (h:In b p) (hs:q.l.Sublist p.l):In b q:=by
 obtain⟨D,H,h1,h2,h3,h4⟩:=h;exact⟨D,H,h1,h2,h3,h4.part hs⟩
theorem zero (b:Nat):In b 0:=⟨1,1,by omega,Nat.one_le_two_pow,Nat.one_le_two_pow,Ind.zero 1 1⟩
theorem one (b:Nat):In b 1:=⟨1,1,by omega,Nat.one_le_two_pow,Nat.one_le_two_pow,dv_one 1,by rw [am_one,Rat.mul_one];exact Rat.le_refl⟩
end In
theorem hd_mem {p:MP} (h:p≠0):∃ t∈p.l,hd p=t.2:=by
 obtain⟨t,l,e⟩:=head_ex h;exact⟨t,by rw [e];simp,hd_eq e⟩
theorem hd_am {p:MP} (h:p≠0):rabs (hd p)<=p.am:=by
 obtain⟨t,ht,e⟩:=hd_mem h;rw [e];exact asum_mem ht
theorem Ind.hd {D H:Nat} {p:MP} (h:Ind D H p) (h0:p≠0):Ind D H (c (Q.hd p)):=by
 obtain⟨t,ht,e⟩:=hd_mem h0;refine⟨dv_c (by rw [e];exact h.d t ht),?_⟩;rw [am_c];exact Rat.le_trans (Rat.mul_le_mul_of_nonneg_left (hd_am h0) (nr_nonneg D)) h.a
theorem In.hd {b:Nat} {p:MP} (h:In b p) (h0:p≠0):In b (c (Q.hd p)):=by
 obtain⟨D,H,h1,h2,h3,h4⟩:=h;exact⟨D,H,h1,h2,h3,h4.hd h0⟩
theorem hd_div {p:MP} (h:p≠0):hd p*(1 / hd p)=1:=by
 have:=Rat.div_mul_cancel (a:=1) (hd_ne h);grind
theorem Ind.nrm {D H:Nat} {p:MP} (h4:Ind D H p) (h1:0<D) (h0:p≠0):∃ z:Nat,0<z/\(z:Rat)=(D:Rat)*rabs (Q.hd p)/\z<=H/\Ind z H (Q.nrm p):=by
 obtain⟨z,hz⟩:∃ z:Int,Q.hd p*(D:Rat)=(z:Rat):=by
  obtain⟨t,ht,e⟩:=hd_mem h0;rw [e];exact h4.d t ht
 have hD0:(D:Rat)≠0:=nat_ne h1;have hh:=hd_ne h0;have hd1:=hd_div h0
 have hz0:z≠0:=fun e=>by
  rw [e] at hz;exact rmul_ne hh hD0 hz
 have hrz:((z.natAbs:Nat):Rat)=rabs (z:Rat):=(Q.rabs_int z).symm;have e2:rabs (z:Rat)=(D:Rat)*rabs (Q.hd p):=by rw [<- hz,rabs_mul,rabs_of_pos (nr_nonneg D)];grind
 have hzH:z.natAbs<=H:=by
  have e1:=Rat.mul_le_mul_of_nonneg_left (hd_am h0) (nr_nonneg D);have e3:((z.natAbs:Nat):Rat)<=(H:Rat):=by rw [hrz,e2];exact Rat.le_trans e1 h4.a
  exact Rat.natCast_le_natCast.1 e3
 refine⟨z.natAbs,by omega,by rw [hrz,e2],hzH,?_,?_⟩
 ·intro t ht;obtain⟨s,hs,rfl⟩:=cmul_mem ht;obtain⟨k,hk⟩:=h4.d s hs;have e4:s.2*(1 / Q.hd p)*(z:Rat)=(k:Rat):=by rw [<- hz,<- hk];grind
  rcases Int.natAbs_eq z with e|e
  ·refine⟨k,?_⟩;show s.2*(1 / Q.hd p)*((z.natAbs:Nat):Rat)=k;rw [<- Rat.intCast_natCast,<- e];exact e4
  ·refine⟨-k,?_⟩;show s.2*(1 / Q.hd p)*((z.natAbs:Nat):Rat)=_;rw [<- Rat.intCast_natCast,show ((z.natAbs:Nat):Int)=-z by omega,Rat.intCast_neg,Rat.intCast_neg,<- e4];grind
 ·show _*(c (1 / Q.hd p)*p).am<=_;rw [am_cmul,hrz,<- hz,rabs_mul,rabs_of_pos (nr_nonneg D)];have e5:rabs (Q.hd p)*rabs (1 / Q.hd p)=1:=by rw [<- rabs_mul,hd1];exact rabs_one
  have:rabs (Q.hd p)*(D:Rat)*(rabs (1 / Q.hd p)*p.am)=(rabs (Q.hd p)*rabs (1 / Q.hd p))*((D:Rat)*p.am):=by grind
  rw [this,e5,Rat.one_mul];exact h4.a
theorem In.nrm {b:Nat} {p:MP} (h:In b p):In b (Q.nrm p):=by
 by_cases h0:p=0
 ·rw [h0,nrm_zero];exact In.zero b
 obtain⟨D,H,h1,h2,h3,h4⟩:=h;obtain⟨z,z1,-,z3,z4⟩:=h4.nrm h1 h0;exact⟨z,H,z1,by omega,h3,z4⟩
theorem nrm_cmul {r:Rat} (hr:r≠0) (f:MP):nrm (c r*f)=nrm f:=by
 by_cases h:f=0
 ·have e:c r*f=0:=by rw [h];grind
  rw [e,h]
 have h1:=hd_ne h;have h2:hd f*r≠0:=rmul_ne h1 hr;rw [nrm,nrm,hd_cmul hr]
 have e:(1:Rat) / (hd f*r)*r=1 / hd f:=by
  have e1:=Rat.div_mul_cancel (a:=1) h2;have e2:=Rat.div_mul_cancel (a:=1) h1;have e3:(1:Rat) / (hd f*r)*r*hd f=1 / hd f*hd f:=by grind
  have e4:((1:Rat) / (hd f*r)*r-1 / hd f)*hd f=0:=by grind
  rcases Rat.mul_eq_zero.1 e4 with h|h
  ·grind
  ·exact absurd h h1
 rw [<- e,<- c_mul];grind
def Dg (d:Nat->Nat) (p:MP):Prop:=∀ w,w<4->p.deg w<=d w
theorem Dg.mono {d e:Nat->Nat} {p:MP} (h:Dg d p) (hd:∀ w,d w<=e w):Dg e p:=fun w hw=>by have:=h w hw;have:=hd w;omega
theorem Dg.dvd {d:Nat->Nat} {p q:MP} (h:Dg d p) (h0:p≠0) (hq:q∣p):Dg d q:=fun w hw=>Int.le_trans (dvd_deg h0 hq w) (h w hw)
theorem deg_cmul {r:Rat} (hr:r≠0) {p:MP} (h:p≠0) (w:Nat):(c r*p).deg w=p.deg w:=by
 rw [deg_mul (c_ne hr) h];have h1:=deg_pos (c_ne hr) w;have h2:(c r).deg w<=0:=fr_c r w;omega
theorem cmul_dvd {r:Rat} (hr:r≠0) (p:MP):c r*p∣p/\p∣c r*p:=by
 refine⟨⟨c r⁻¹,?_⟩,⟨c r,by grind⟩⟩;have h:c r*c r⁻¹=1:=by rw [c_mul,Rat.mul_inv_cancel _ hr];rfl
 grind
theorem In.fac {b k n:Nat} {a f:MP} {d:Nat->Nat} (hn:n<=4) (h:In b a) (h0:a≠0) (hf:f∣a) (hl:a.lo n) (hd:Dg d a) (hk:facK d n<=2 ^ k):In (b+k) (Q.nrm f):=by
 obtain⟨D,H,h1,h2,h3,h4⟩:=h;obtain⟨g,eg⟩:=hf;have f0:f≠0:=fun e=>h0 (by rw [eg,e];grind);obtain⟨r,hr,hp⟩:=pz_of f0;have hD0:(D:Rat)≠0:=nat_ne h1
 have e:c (D:Rat)*a=(c r*f)*(c ((D:Rat)*r⁻¹)*g):=by
  have h5:c r*c ((D:Rat)*r⁻¹)=c (D:Rat):=by rw [c_mul];congr 1;have:=Rat.mul_inv_cancel _ hr;grind
  rw [eg,<- h5];grind
 have iP:(c (D:Rat)*a).dv 1:=dv_clear h4.d;have iH:=gaussZ iP hp e;have hP0:c (D:Rat)*a≠0:=mul_ne (c_ne hD0) h0;have hf2:=MP.fac d n hn _ _ _ e hP0 hp.1 iH (lo_dvd h0 (cmul_dvd hD0 a).1 hl) fun w hw=>by rw [deg_cmul hD0 h0];exact hd w (by omega)
 rw [am_cmul (D:Rat) a,rabs_of_pos (nr_nonneg D)] at hf2
 have h6:In (b+k) (c r*f):=by
  refine⟨1,2 ^ (b+k),by omega,Nat.one_le_two_pow,Nat.le_refl _,hp.1,?_⟩;have e1:((1:Nat):Rat)=1:=rfl;rw [e1,Rat.one_mul]
  have h7:(facK d n:Rat)*((D:Rat)*a.am)<=((2 ^ k:Nat):Rat)*((2 ^ b:Nat):Rat) :=
   rmul_le (nr_le hk) (Rat.le_trans h4.a (nr_le h3)) (nr_nonneg _) (nr_nonneg _)
  rw [<- Rat.natCast_mul,<- Nat.pow_add,Nat.add_comm] at h7;exact Rat.le_trans hf2 h7
 have:=h6.nrm;rwa [nrm_cmul hr] at this
theorem nrm_back {p:MP} (h:p≠0):p=c (hd p)*nrm p:=by
 have h1:c (hd p)*c (1 / hd p)=1:=by rw [c_mul,hd_div h];rfl
 rw [nrm];grind
theorem In.quot {b k n:Nat} {a q z:MP} {d:Nat->Nat} (hn:n<=4) (h:In b a) (h0:a≠0) (e:a=q*z) (hz:Q.hd z=1) (hl:a.lo n) (hd:Dg d a) (hk:facK d n<=2 ^ k):In (b+(b+k)) q:=by
 have q0:q≠0:=fun h=>h0 (by rw [e,h];grind);have z0:z≠0:=fun h=>h0 (by rw [e,h];grind);have e1:Q.hd a=Q.hd q:=by rw [e,hd_mul q0 z0,hz,Rat.mul_one]
 have h1:=h.fac hn h0 ⟨z,e⟩ hl hd hk;have h2:=(h.hd h0).mul h1;rwa [e1,<- nrm_back q0] at h2
end Q
end
section
namespace Q
open MP Go.Proofs.YtopclbeomcggiaaGreat
theorem nodup_lt:∀ (N:Nat) (L:List Nat),L.Nodup->(∀ x∈L,x<N)->L.length<=N
|0,L,_,h=>by
  cases L with
 |nil=>simp
 |cons x L=>have:=h x (by simp);omega
|N+1,L,hn,h=>by
  by_cases hN:N∈L
  ·have h1:=nodup_lt N (L.erase N) (hn.erase N) fun x hx=>by
    have h2:=(hn.mem_erase_iff).1 hx;have:=h x h2.2;have:=h2.1;omega
   rw [List.length_erase_of_mem hN] at h1;omega
  ·have:=nodup_lt N L hn fun x hx=>by
    have:=h x hx;have:x≠N:=fun e=>hN (e ▸ hx);omega
   omega
def bx (d:Nat->Nat):Nat:=(d 0+1)*(d 1+1)*(d 2+1)*(d 3+1)
def InB (d:Nat->Nat) (e:Ex):Prop:=e.nat=true/\∀ w,w<4->e.get w<=d w
def codeE (d:Nat->Nat) (e:Ex):Nat:=((e.1.toNat * (d 1+1)+e.2.1.toNat)*(d 2+1)+e.2.2.1.toNat)*(d 3+1)+e.2.2.2.toNat
theorem code_lt {a b A B:Nat} (ha:a<A) (hb:b<B):a*B+b<A*B:=by
 have:=Nat.mul_le_mul_right B (show a+1<=A by omega);rw [Nat.add_mul] at this;omega
theorem code_inj {a b a' b' B:Nat} (hb:b<B) (hb':b' < B) (h:a*B+b=a'*B+b'):a=a'/\b=b':=by
 have h1:(a*B+b) / B=a:=by rw [Nat.mul_comm,Nat.mul_add_div (by omega),Nat.div_eq_of_lt hb,Nat.add_zero]
 have h2:(a'*B+b') / B=a':=by rw [Nat.mul_comm,Nat.mul_add_div (by omega),Nat.div_eq_of_lt hb',Nat.add_zero]
 have h3:a=a':=by rw [<- h1,<- h2,h]
 subst h3;omega
theorem InB.parts {d:Nat->Nat} {e:Ex} (h:InB d e):e.1.toNat<d 0+1/\e.2.1.toNat<d 1+1/\e.2.2.1.toNat<d 2+1/\e.2.2.2.toNat<d 3+1/\0<=e.1/\0<=e.2.1/\0<=e.2.2.1/\0<=e.2.2.2:=by
 have h0:=Ex.nat_iff.1 h.1;have a0:=h.2 0 (by omega);have a1:=h.2 1 (by omega);have a2:=h.2 2 (by omega);have a3:=h.2 3 (by omega);simp only [Ex.get] at a0 a1 a2 a3;omega
theorem code_bx {d:Nat->Nat} {e:Ex} (h:InB d e):codeE d e<bx d:=by
 obtain⟨h0,h1,h2,h3,_⟩:=h.parts;exact code_lt (code_lt (code_lt h0 h1) h2) h3
theorem code_ne {d:Nat->Nat} {e f:Ex} (h:InB d e) (h':InB d f) (hc:codeE d e=codeE d f):e=f:=by
 obtain⟨h0,h1,h2,h3,n0,n1,n2,n3⟩:=h.parts;obtain⟨k0,k1,k2,k3,m0,m1,m2,m3⟩:=h'.parts;obtain⟨c1,c2⟩:=code_inj h3 k3 hc;obtain⟨c3,c4⟩:=code_inj h2 k2 c1;obtain⟨c5,c6⟩:=code_inj h1 k1 c3;exact Ex.ext' (by omega) (by omega) (by omega) (by omega)
theorem box_len {d:Nat->Nat} {L:List Ex} (hn:L.Nodup) (h:∀ e∈L,InB d e):L.length<=bx d:=by
 have h1:(L.map (codeE d)).Nodup:=by
  induction L with
 |nil=>exact List.nodup_nil
 |cons e L ih =>
   rw [List.nodup_cons] at hn;rw [List.map_cons,List.nodup_cons];refine⟨fun hm=>?_,ih hn.2 fun f hf=>h f (by simp [hf])⟩;obtain⟨f,hf,hc⟩:=List.mem_map.1 hm;exact hn.1 (code_ne (h e (by simp)) (h f (by simp [hf])) hc.symm ▸ hf)
 have:=nodup_lt (bx d) _ h1 fun x hx=>by
  obtain⟨e,he,rfl⟩:=List.mem_map.1 hx;exact code_bx (h e he)
 rwa [List.length_map] at this
theorem srt_nodup {l:List Trm} (h:Srt l):(l.map Prod.fst).Nodup:=by
 induction l with
|nil=>exact List.nodup_nil
|cons t l ih =>
  have h':=List.pairwise_cons.1 h;rw [List.map_cons,List.nodup_cons];refine⟨fun hm=>?_,ih h'.2⟩;obtain⟨u,hu,e⟩:=List.mem_map.1 hm;exact Ex.gt_ne (h'.1 u hu) e.symm
theorem Dg.inB {d:Nat->Nat} {p:MP} (h:Dg d p):∀ t∈p.l,InB d t.1:=fun t ht=>⟨(p.v.2 t ht).2,fun w hw=>Int.le_trans (degP_le ht w) (h w hw)⟩
theorem Dg.len {d:Nat->Nat} {p:MP} (h:Dg d p):p.l.length<=bx d:=by
 have:=box_len (srt_nodup p.v.1) (d:=d) fun e he=>by
  obtain⟨t,ht,rfl⟩:=List.mem_map.1 he;exact h.inB t ht
 rwa [List.length_map] at this
theorem dg_of {d:Nat->Nat} {p:MP} (h:∀ t∈p.l,InB d t.1):Dg d p:=fun w hw=>by
 rcases (foldl_max (fun t=>t.1.get w) p.l (-1)).2.2 with e|⟨t,ht,e⟩
 ·show degP p.l w<=_;unfold degP;rw [e];omega
 ·show degP p.l w<=_;unfold degP;rw [<- e];exact (h t ht).2 w hw
theorem le4 {a b c e:Nat} (ha:0<a) (hb:0<b) (hc:0<c) (he:0<e):a<=a*b*c*e/\b<=a*b*c*e/\c<=a*b*c*e/\e<=a*b*c*e:=by
 have e1:a*b*c*e=a*(b*c*e):=by simp only [Nat.mul_assoc]
 have e2:a*b*c*e=b*(a*c*e):=by simp only [Nat.mul_comm,Nat.mul_left_comm]
 have e3:a*b*c*e=c*(a*b*e):=by simp only [Nat.mul_comm,Nat.mul_left_comm]
 have e4:a*b*c*e=e*(a*b*c):=by simp only [Nat.mul_comm,Nat.mul_left_comm]
 refine⟨?_,?_,?_,?_⟩
 ·rw [e1];exact Nat.le_mul_of_pos_right _ (Nat.mul_pos (Nat.mul_pos hb hc) he)
 ·rw [e2];exact Nat.le_mul_of_pos_right _ (Nat.mul_pos (Nat.mul_pos ha hc) he)
 ·rw [e3];exact Nat.le_mul_of_pos_right _ (Nat.mul_pos (Nat.mul_pos ha hb) he)
 ·rw [e4];exact Nat.le_mul_of_pos_right _ (Nat.mul_pos (Nat.mul_pos ha hb) hc)
theorem bx_ge (d:Nat->Nat):d 0+1<=bx d/\d 1+1<=bx d/\d 2+1<=bx d/\d 3+1<=bx d:=le4 (by omega) (by omega) (by omega) (by omega)
theorem num_dv {D:Nat} {x:Rat} (hD:0<D) (h:Dv D x):x.den∣D/\rabs ((x.num:Int):Rat)<=(D:Rat)*rabs x:=by
 obtain⟨k,hk⟩:=h;have hD0:(D:Rat)≠0:=nat_ne hD
 have hc:x=Rat.divInt k D:=by
  rw [Rat.divInt_eq_div,Rat.intCast_natCast,<- hk];grind
 obtain⟨e1,e2⟩:=divInt_pos k D (by omega);rw [<- hc] at e1 e2;refine⟨Int.natCast_dvd_natCast.1 ⟨(Int.gcd k D:Int),by rw [e2];exact (Int.ediv_mul_cancel (Int.gcd_dvd_right _ _)).symm⟩,?_⟩;have h4:x.num.natAbs<=k.natAbs:=by rw [e1];exact Int.natAbs_ediv_le_natAbs _ _
 have h5:(D:Rat)*rabs x=rabs (k:Rat):=by rw [<- hk,rabs_mul,rabs_of_pos (nr_nonneg D)];grind
 rw [h5,Q.rabs_int,Q.rabs_int];exact nr_le h4
theorem rabs_dv {D:Nat} {x:Rat} (h:Dv D x):Dv D (rabs x):=by
 unfold rabs;split
 ·exact h.neg
 ·exact h
theorem asum_dv {D:Nat}:∀ {l:List Trm},(∀ t∈l,Dv D t.2)->Dv D (asum l)
|[],_=>Dv.zero D
|t::l,h=>(rabs_dv (h t (by simp))).add (asum_dv fun u hu=>h u (by simp [hu]))
theorem lcmD_dvd {D:Nat}:∀ {l:List Trm},(∀ t∈l,t.2.den∣D)->lcmD l∣D
|[],_=>Nat.one_dvd D
|t::l,h=>Nat.lcm_dvd (h t (by simp)) (lcmD_dvd fun u hu=>h u (by simp [hu]))
theorem bits_le {n b:Nat} (h:n<=2 ^ b):nbits n<=b+1:=nbits_le (Nat.lt_of_le_of_lt h (Nat.pow_lt_pow_right (by omega) (by omega)))
theorem bdB_of {d:Nat->Nat} {b D H:Nat} {l:List Trm} (hx:∀ t∈l,InB d t.1) (hd:bx d<=10000) (hl:l.length<=10000) (hD:0<D) (hD2:D<=2 ^ b) (hH:H<=2 ^ b) (hv:∀ t∈l,Dv D t.2) (ha:(D:Rat)*asum l<=(H:Rat)) (hb:b<LB):bdB l=true:=by
 simp only [bdB,Bool.and_eq_true,decide_eq_true_eq,List.all_eq_true];have hbx:=bx_ge d;refine⟨⟨⟨hl,fun t ht=>?_⟩,?_⟩,?_⟩
 ·obtain⟨h0,h1,h2,h3,n0,n1,n2,n3⟩:=(hx t ht).parts;exact⟨⟨⟨⟨⟨⟨⟨by omega,by omega⟩,by omega⟩,by omega⟩,by omega⟩,by omega⟩,by omega⟩,by omega⟩
 ·have h1:lcmD l∣D:=lcmD_dvd fun t ht=>(num_dv hD (hv t ht)).1;have h2:=nbits_mono (Nat.le_trans (Nat.le_of_dvd hD h1) hD2);have h3:=bits_le (Nat.le_refl (2 ^ b));omega
 ·have h1:=(num_dv hD (asum_dv hv)).2;rw [rabs_of_pos (asum_nonneg l),Q.rabs_int] at h1;have h2:numB l<=H:=Rat.natCast_le_natCast.1 (Rat.le_trans h1 ha);have h3:=bits_le (Nat.le_trans h2 hH);omega
theorem wp_of {d:Nat->Nat} {b:Nat} {p:MP} (h:Dg d p) (hi:In b p) (hd:bx d<=10000) (hb:b<LB):wpB p.l=true:=by
 obtain⟨D,H,h1,h2,h3,h4⟩:=hi;rw [wpB,Bool.and_eq_true];exact⟨vldB_vld.2 p.v,bdB_of h.inB hd (Nat.le_trans h.len hd) h1 h2 h3 h4.d h4.a hb⟩
theorem g1_of {p:MP} (h:wpB p.l=true):g1 p.l=some p.l:=by rw [g1,if_pos h]
theorem normO_ex {d:Nat->Nat} {b:Nat} {p:MP} (h:Dg d p) (hi:In b p) (hd:bx d<=10000) (hb:b<LB):normO p.l=some (nrm p).l:=by
 by_cases h0:p=0
 ·rw [h0,nrm_zero];rfl
 ·have h1:=wp_of (h.dvd h0 (nrm_dvd h0).1) hi.nrm hd hb;obtain⟨t,l,e⟩:=head_ex h0;have e2:(nrm p).l=scaleP p.l (1 / t.2):=by rw [nrm,hd_eq e,c_mul_l]
  have h2:=g1_of h1;rw [e2] at h2 ⊢;rw [e] at h2 ⊢;exact h2
theorem divO_exact {g:Trm} {ts:List Trm} (hv:Vld (g::ts)):∀ (s out:List Trm) (n:Nat),Vld s->(∀ x r,x::r <:+ s->wpB (mulP (x::r) (g::ts))=true/\wpB [x]=true)->s.length+1<=n->divO (g::ts) g n (mulP s (g::ts)) out=some (some (out++s))
|[],out,n,_,_,hn=>by
  obtain⟨n,rfl⟩:∃ m,n=m+1:=⟨n - 1,by simp at hn;omega⟩;rw [show mulP [] (g::ts)=[] from rfl,divO,List.append_nil]
|x::s,out,n,hs,hw,hn=>by
  obtain⟨n,rfl⟩:∃ m,n=m+1:=⟨n - 1,by simp at hn;omega⟩;have hz:=(hv.2 g (by simp)).1;have hx:=hs.2 x (by simp);obtain⟨h1,h2⟩:=mul_top hs hv;obtain⟨a,ha⟩:=head_is (Vld.mul _ _) (rmul_ne hx.1 hz) h1 h2;obtain⟨w1,w2⟩:=hw x s (List.suffix_refl _);have ih:=divO_exact hv s (out++[x]) n hs.tail (fun y r hr=>hw y r (hr.trans (List.suffix_cons x s))) (by simp at hn;omega);have h3:=sub_back hs hv Vld.nil;rw [addP_nil (Vld.mul _ _),addP_nil (Vld.mul _ _)] at h3;rw [ha] at w1 h3 ⊢;have h4:=quo_back (x:=x) hz;have h5:((x.1.add g.1).sub g.1)=x.1:=congrArg Prod.fst h4;rw [divO,if_pos w1,if_pos (by show ((x.1.add g.1).sub g.1).nat=true;rw [h5];exact hx.2),h4,if_pos w2,h3,ih];simp
theorem overO_ex {d:Nat->Nat} {b k:Nat} {a q z:MP} (z0:z≠0) (e:a=q*z) (hd:Dg d a) (hx:bx d<=10000) (hq:In b q) (hz:In k z) (hb:b+k<LB):overO a.l z.l=some q.l:=by
 obtain⟨g,ts,hl⟩:=head_ex z0;by_cases q0:q=0
 ·have ha:a=0:=by rw [e,q0];grind
  rw [ha,q0,overO,hl];rfl
 have a0:a≠0:=by rw [e];exact mul_ne q0 z0
 have hdq:Dg d q:=hd.dvd a0 ⟨z,e⟩;have hdz:Dg d z:=hd.dvd a0 ⟨q,by rw [e];grind⟩;have hdeg:∀ w,q.deg w+z.deg w=a.deg w:=fun w=>by rw [e,deg_mul q0 z0]
 have key:=divO_exact (hl ▸ z.v) q.l [] fuel q.v (fun x r hr=>by
  have hv:Vld (x::r):=q.v.sublist hr.sublist;have hp:In b (⟨x::r,hv⟩:MP):=hq.part hr.sublist
  have hdp:∀ w,(⟨x::r,hv⟩:MP).deg w<=q.deg w:=fun w=>by
   rcases (foldl_max (fun t=>t.1.get w) (x::r) (-1)).2.2 with e|⟨t,ht,e⟩
   ·show degP (x::r) w<=_;unfold degP;rw [e];exact deg_ge w q
   ·show degP (x::r) w<=_;unfold degP;rw [<- e];exact degP_le (hr.sublist.subset ht) w
  have hne:(⟨x::r,hv⟩:MP)≠0:=fun h=>by have:=zero_iff.1 h;cases this
  refine⟨?_,?_⟩
  ·have h1:=wp_of (d:=d) (p:=(⟨x::r,hv⟩:MP)*z) (fun w hw=>by
    rw [deg_mul hne z0];have:=hdeg w;have:=hdp w;have:=hd w hw;omega) (hp.mul hz) hx hb
   rw [<- hl];exact h1
  ·have hvx:Vld [x]:=hv.sublist (List.singleton_sublist.2 (by simp))
   exact wp_of (d:=d) (p:=(⟨[x],hvx⟩:MP)) (fun w hw=>by
    show degP [x] w<=_;have h1:=degP_le (hr.sublist.subset (show x∈x::r by simp)) w;have h2:=hdq w hw;have h3:q.deg w=degP q.l w:=rfl;show max (-1) (x.1.get w)<=_
    omega) (hp.part (q:=⟨[x],hvx⟩) (List.singleton_sublist.2 (by simp))) hx (by omega))
  (by have:=hdq.len;unfold fuel;omega)
 have e2:a.l=mulP q.l (g::ts):=by rw [e,<- hl];rfl
 rw [overO,hl,e2];simp only [divW,key,List.nil_append,Option.getD_some];exact g1_of (wp_of hdq hq hx (by omega))
def wt (B:Int) (e:Ex):Int:=e.1+B*(e.2.1+B*(e.2.2.1+B*e.2.2.2))
theorem wt_add (B:Int) (e f:Ex):wt B (e.add f)=wt B e+wt B f:=by simp only [wt,Ex.add];grind
theorem wt_sub (B:Int) (e f:Ex):wt B (e.sub f)=wt B e-wt B f:=by simp only [wt,Ex.sub];grind
theorem hstep {B x x' h h':Int} (hB:0<=B) (hx:x<=B-1) (hx':0<=x') (hlt:h<h'):x+B*h<x'+B*h':=by
 have:=Int.mul_le_mul_of_nonneg_left (show h+1<=h' by omega) hB;rw [Int.mul_add,Int.mul_one] at this;omega
theorem hle {B x h H:Int} (hB:0<=B) (hx:x<=B-1) (hh:h<=H-1):x+B*h<=B*H-1:=by
 have:=Int.mul_le_mul_of_nonneg_left (show h+1<=H by omega) hB;rw [Int.mul_add,Int.mul_one] at this;omega
theorem wt_lt {v d:Nat} {g u:Ex} (hg:g.nat=true) (hu:u.nat=true) (hd:∀ w,w<v->u.get w<=d) (hz:∀ w,v<w->w<4->u.get w=0/\g.get w=0) (h:g.gt u=true):wt ((d:Int)+1) u<wt ((d:Int)+1) g:=by
 rw [Ex.gt_iff] at h;rw [Ex.nat_iff] at hg hu;have d0:=hd 0;have d1:=hd 1;have d2:=hd 2;have z1:=hz 1;have z2:=hz 2;have z3:=hz 3;simp only [Ex.get] at d0 d1 d2 z1 z2 z3;have hB:(0:Int)<=(d:Int)+1:=by omega
 unfold wt;rcases h with h|⟨e3,h|⟨e2,h|⟨e1,h⟩⟩⟩
 ·have hv:3<=v:=by
   rcases Nat.lt_or_ge v 3 with h'|h'
   ·have:=z3 h' (by omega);omega
   ·exact h'
  exact hstep hB (by have:=d0 (by omega);omega) (by omega) (hstep hB (by have:=d1 (by omega);omega) (by omega) (hstep hB (by have:=d2 (by omega);omega) (by omega) h))
 ·have hv:2<=v:=by
   rcases Nat.lt_or_ge v 2 with h'|h'
   ·have:=z2 h' (by omega);omega
   ·exact h'
  rw [e3];exact hstep hB (by have:=d0 (by omega);omega) (by omega) (hstep hB (by have:=d1 (by omega);omega) (by omega) (by omega))
 ·have hv:1<=v:=by
   rcases Nat.lt_or_ge v 1 with h'|h'
   ·have:=z1 h' (by omega);omega
   ·exact h'
  rw [e3,e2];exact hstep hB (by have:=d0 (by omega);omega) (by omega) (by omega)
 ·rw [e3,e2,e1];omega
def wtM (v d M:Nat):Nat:=(M+1)*(d+1) ^ v
theorem wt_le {v d M:Nat} {e:Ex} (hv:v<4) (hd:∀ w,w<v->e.get w<=d) (hm:e.get v<=M) (hz:∀ w,v<w->w<4->e.get w=0):wt ((d:Int)+1) e<=(wtM v d M:Nat):=by
 have d0:=hd 0;have d1:=hd 1;have d2:=hd 2;have z1:=hz 1;have z2:=hz 2;have z3:=hz 3;simp only [Ex.get] at d0 d1 d2 z1 z2 z3;have hB:(0:Int)<=(d:Int)+1:=by omega
 have e1:((wtM v d M:Nat):Int)=((M:Int)+1)*((d:Int)+1) ^ v:=by
  unfold wtM;rw [Int.natCast_mul,Int.natCast_pow];rfl
 rw [e1];unfold wt;obtain rfl|rfl|rfl|rfl:v=0\/v=1\/v=2\/v=3:=by omega
 ·simp only [Ex.get] at hm;rw [z1 (by omega) (by omega),z2 (by omega) (by omega),z3 (by omega) (by omega),Int.mul_zero,Int.add_zero,Int.mul_zero,Int.add_zero,Int.mul_zero,Int.add_zero,Int.pow_zero,Int.mul_one];omega
 ·simp only [Ex.get] at hm;rw [z2 (by omega) (by omega),z3 (by omega) (by omega),Int.mul_zero,Int.add_zero,Int.mul_zero,Int.add_zero];have:=hle (h:=e.2.1) (H:=(M:Int)+1) hB (show e.1<=_ by have:=d0 (by omega);omega) (by omega);have e2:((M:Int)+1)*((d:Int)+1) ^ 1=((d:Int)+1)*((M:Int)+1):=by grind
  rw [e2];omega
 ·simp only [Ex.get] at hm;rw [z3 (by omega) (by omega),Int.mul_zero,Int.add_zero];have h1:=hle (h:=e.2.2.1) (H:=(M:Int)+1) hB (show e.2.1<=_ by have:=d1 (by omega);omega) (by omega);have h2:=hle hB (show e.1<=_ by have:=d0 (by omega);omega) h1;have e2:((M:Int)+1)*((d:Int)+1) ^ 2=((d:Int)+1)*(((d:Int)+1)*((M:Int)+1)):=by grind
  rw [e2];omega
 ·simp only [Ex.get] at hm;have h1:=hle (h:=e.2.2.2) (H:=(M:Int)+1) hB (show e.2.2.1<=_ by have:=d2 (by omega);omega) (by omega);have h2:=hle hB (show e.2.1<=_ by have:=d1 (by omega);omega) h1;have h3:=hle hB (show e.1<=_ by have:=d0 (by omega);omega) h2;have e2:((M:Int)+1)*((d:Int)+1) ^ 3=((d:Int)+1)*(((d:Int)+1)*(((d:Int)+1)*((M:Int)+1))):=by grind
  rw [e2];omega
def wbx (v d W:Nat) (w:Nat):Nat:=if w<=v then W / (d+1) ^ w else 0
theorem wt_ge {B:Int} (hB:0<=B) {e:Ex} (he:e.nat=true):e.1<=wt B e/\e.2.1*B<=wt B e/\e.2.2.1*B ^ 2<=wt B e/\e.2.2.2*B ^ 3<=wt B e:=by
 rw [Ex.nat_iff] at he;obtain⟨h0,h1,h2,h3⟩:=he;have a1:=Int.mul_nonneg hB h1;have a2:=Int.mul_nonneg hB (Int.mul_nonneg hB h2);have a3:=Int.mul_nonneg hB (Int.mul_nonneg hB (Int.mul_nonneg hB h3));have e1:wt B e=e.1+B*e.2.1+B*(B*e.2.2.1)+B*(B*(B*e.2.2.2)):=by unfold wt;grind
 have e2:e.2.1*B=B*e.2.1:=Int.mul_comm _ _;have e3:e.2.2.1*B ^ 2=B*(B*e.2.2.1):=by grind
 have e4:e.2.2.2*B ^ 3=B*(B*(B*e.2.2.2)):=by grind
 rw [e1,e2,e3,e4];omega
theorem wbx_in {v d W:Nat} {e:Ex} (he:e.nat=true) (hw:wt ((d:Int)+1) e<=W) (hz:∀ w,v<w->w<4->e.get w=0):InB (wbx v d W) e:=by
 refine⟨he,fun w h4=>?_⟩;unfold wbx;split
 ·have hn:=Ex.nat_get he w;obtain⟨k,hk⟩:∃ k:Nat,e.get w=k:=⟨(e.get w).toNat,by omega⟩;rw [hk];refine Int.ofNat_le.2 ((Nat.le_div_iff_mul_le (Nat.pow_pos (by omega))).2 ?_);refine Int.ofNat_le.1 (Int.le_trans ?_ hw);obtain⟨g0,g1,g2,g3⟩:=wt_ge (B:=(d:Int)+1) (by omega) he;have e5:((k*(d+1) ^ w:Nat):Int)=e.get w*((d:Int)+1) ^ w:=by rw [hk,Int.natCast_mul,Int.natCast_pow];rfl
  rw [e5];obtain rfl|rfl|rfl|rfl:w=0\/w=1\/w=2\/w=3:=by omega
  ·rw [Int.pow_zero,Int.mul_one];exact g0
  ·rw [show ((d:Int)+1) ^ 1=(d:Int)+1 by grind];exact g1
  ·exact g2
  ·exact g3
 ·rw [hz w (by omega) h4];omega
theorem In.inv {b:Nat} {p:MP} (h:In b p) (h0:p≠0):In b (c (1 / Q.hd p)):=by
 obtain⟨D,H,h1,h2,h3,h4⟩:=h
 obtain⟨z,hz⟩:∃ z:Int,Q.hd p*(D:Rat)=(z:Rat):=by
  obtain⟨t,ht,e⟩:=hd_mem h0;rw [e];exact h4.d t ht
 have hD0:(D:Rat)≠0:=nat_ne h1;have hh:=hd_ne h0;have hd1:=hd_div h0
 have hz0:z≠0:=fun e=>by
  rw [e] at hz;exact rmul_ne hh hD0 hz
 have hrz:((z.natAbs:Nat):Rat)=rabs (z:Rat):=(Q.rabs_int z).symm
 have hzH:z.natAbs<=H:=by
  have e1:=Rat.mul_le_mul_of_nonneg_left (hd_am h0) (nr_nonneg D);have e2:rabs (z:Rat)=(D:Rat)*rabs (Q.hd p):=by rw [<- hz,rabs_mul,rabs_of_pos (nr_nonneg D)];grind
  have e3:((z.natAbs:Nat):Rat)<=(H:Rat):=by rw [hrz,e2];exact Rat.le_trans e1 h4.a
  exact Rat.natCast_le_natCast.1 e3
 refine⟨z.natAbs,D,by omega,by omega,h2,dv_c ?_,?_⟩
 ·rcases Int.natAbs_eq z with e|e
  ·refine⟨D,?_⟩;rw [<- Rat.intCast_natCast,<- e,<- hz,Rat.intCast_natCast];grind
  ·refine⟨-D,?_⟩;rw [<- Rat.intCast_natCast,show ((z.natAbs:Nat):Int)=-z by omega,Rat.intCast_neg,Rat.intCast_neg,<- hz,Rat.intCast_natCast];grind
 ·rw [am_c,hrz,<- hz,rabs_mul,rabs_of_pos (nr_nonneg D)];have e5:rabs (Q.hd p)*rabs (1 / Q.hd p)=1:=by rw [<- rabs_mul,hd1];exact rabs_one
  have:rabs (Q.hd p)*(D:Rat)*rabs (1 / Q.hd p)=(rabs (Q.hd p)*rabs (1 / Q.hd p))*(D:Rat):=by grind
  rw [this,e5,Rat.one_mul];exact Rat.le_refl
def mono1 (e:Ex) (h:e.nat=true):MP:=⟨[(e,1)],vld_one h (by decide)⟩
theorem mono1_ind (e:Ex) (h:e.nat=true):Ind 1 1 (mono1 e h):=by
 refine⟨fun t ht=>by rw [List.mem_singleton.1 ht];exact Dv.int 1 1,?_⟩;show ((1:Nat):Rat)*(rabs 1+0)<=((1:Nat):Rat);rw [rabs_one,Rat.add_zero,Rat.mul_one];exact Rat.le_refl
theorem quo_eq {e:Ex} (h:e.nat=true) {r:Rat} (hr:r≠0) (hv:Vld [(e,r)]):(⟨[(e,r)],hv⟩:MP)=c r*mono1 e h:=by
 refine MP.eq_of ?_;rw [c_mul_l];show [(e,r)]=scaleP [(e,1)] r;rw [scaleP,if_neg hr];show [(e,r)]=[(e,1*r)];rw [Rat.one_mul]
theorem divO_ex {v d W b0 bz:Nat} {z:MP} {g:Trm} {ts:List Trm} (hl:z.l=g::ts) (hzd:∀ t∈z.l,(∀ w,w<v->t.1.get w<=d)/\∀ w,v<w->w<4->t.1.get w=0) (hz:In bz z) {dB:Nat->Nat} (hB:∀ e:Ex,e.nat=true->wt ((d:Int)+1) e<=W->(∀ w,v<w->w<4->e.get w=0)->InB dB e) (hbx:bx dB<=10000) (hlb:b0+bz+(bx dB+1)*(bz+1)<LB) :
  ∀ (n:Nat) (a:MP) (out:List Trm) (S:List Ex),S.Nodup->(∀ e∈S,InB dB e)->(∀ e∈S,∀ t∈a.l,e.gt t.1=true)->(∀ t∈a.l,wt ((d:Int)+1) t.1<=W/\∀ w,v<w->w<4->t.1.get w=0)->In (b0+S.length*(bz+1)) a->bx dB+1<=n+S.length->∃ r,divO (g::ts) g n a.l out=some r
|0,a,out,S,hS,hSb,_,_,_,hn=>by have:=box_len hS hSb;omega
|n+1,a,out,S,hS,hSb,hSg,ha,hi,hn=>by
  have z0:z≠0:=fun h=>by have:=zero_iff.1 h;rw [hl] at this;cases this
  have hz0:g.2≠0:=(z.v.2 g (by rw [hl];simp)).1;have hgz:g∈z.l:=by rw [hl];simp
  cases ea:a.l with
 |nil=>exact⟨_,by rw [divO]⟩
 |cons m a' =>
   have hma:m∈a.l:=by rw [ea];simp
   have a0:a≠0:=fun h=>by have:=zero_iff.1 h;rw [ea] at this;cases this
   have hm:=ha m hma;have hmn:=(a.v.2 m hma).2;have hmB:=hB m.1 hmn hm.1 hm.2;have hS':(m.1::S).Nodup:=List.nodup_cons.2 ⟨fun h=>(by have:=hSg _ h m hma;rw [Ex.gt_irrefl] at this;cases this),hS⟩
   have hSb':∀ e∈m.1::S,InB dB e:=fun e he=>by
    rcases List.mem_cons.1 he with rfl|he
    ·exact hmB
    ·exact hSb e he
   have hlen:=box_len hS' hSb';rw [List.length_cons] at hlen;have hmul:=Nat.mul_le_mul_right (bz+1) (show S.length+1<=bx dB+1 by omega);rw [Nat.add_mul S.length,Nat.one_mul] at hmul;have hw1:=wp_of (dg_of fun t ht=>hB t.1 (a.v.2 t ht).2 (ha t ht).1 (ha t ht).2) hi hbx (by omega);rw [ea] at hw1;rw [divO,if_pos hw1];by_cases hq:(m.1.sub g.1).nat=true
   ·rw [if_pos hq];have va:Vld (m::a'):=ea ▸ a.v;have hqv:=quoT_val va hz0 hq;have hmz:m.2≠0:=(a.v.2 m hma).1;have hzi:hd z=g.2:=hd_eq hl;have hdm:hd a=m.2:=hd_eq ea
    have hinv:(1:Rat) / g.2≠0:=fun h=>by
     have:=hd_div z0;rw [hzi,h] at this;grind
    have eqr:m.2 / g.2=m.2*(1 / g.2):=by
     have h1:=Rat.div_mul_cancel (a:=1) hz0;have h2:=Rat.div_mul_cancel (a:=m.2) hz0;have h3:(m.2 / g.2-m.2*(1 / g.2))*g.2=0:=by grind
     rcases Rat.mul_eq_zero.1 h3 with h|h
     ·grind
     ·exact absurd h hz0
    have et:(⟨[quoT m g],hqv⟩:MP)=c (hd a)*(c (1 / hd z)*mono1 _ hq):=by
     have hvv:Vld [(m.1.sub g.1,m.2*(1 / g.2))]:=by rw [<- eqr];exact hqv
     have:=quo_eq hq (rmul_ne hmz hinv) hvv;rw [hzi,hdm];have e2:c (m.2*(1 / g.2))=c m.2*c (1 / g.2):=(c_mul _ _).symm;rw [e2] at this;have e3:(⟨[quoT m g],hqv⟩:MP)=⟨[(m.1.sub g.1,m.2*(1 / g.2))],hvv⟩:=MP.eq_of (congrArg (fun x=>[(m.1.sub g.1,x)]) eqr);rw [e3,this];grind
    have hit:In (b0+S.length*(bz+1)+(bz+0)) (⟨[quoT m g],hqv⟩:MP):=by
     rw [et];exact (hi.hd a0).mul ((hz.inv z0).mul ⟨1,1,by omega,Nat.le_refl _,Nat.le_refl _,mono1_ind _ hq⟩)
    have hw2:=wp_of (d:=dB) (p:=(⟨[quoT m g],hqv⟩:MP)) (dg_of fun t ht=>by
     rw [List.mem_singleton.1 ht];refine⟨hq,fun w hw=>?_⟩;have h1:=hmB.2 w hw;have h2:=Ex.nat_get (z.v.2 g hgz).2 w;show (m.1.sub g.1).get w<=_
     have h3:(m.1.sub g.1).get w=m.1.get w-g.1.get w:=by
      rcases w with _|_|_|w <;> rfl
     omega) hit hbx (by omega)
    rw [if_pos hw2];obtain⟨t,ht⟩:∃ t:MP,t=⟨[quoT m g],hqv⟩:=⟨_,rfl⟩
    have e2:subP (m::a') (mulP (g::ts) [quoT m g])=(a-z*t).l:=by
     rw [ht,<- ea,<- hl];rfl
    have e3:(a-z*t).l=canon (rndL a' ts (quoT m g)):=by rw [<- e2];exact rnd_eq hmn hz0
    rw [e2]
    have hP:∀ u∈(a-z*t).l,m.1.gt u.1=true/\wt ((d:Int)+1) u.1<=W/\∀ w,v<w->w<4->u.1.get w=0:=by
     rw [e3];refine canon_ex (P:=fun e=>m.1.gt e=true/\wt ((d:Int)+1) e<=W/\∀ w,v<w->w<4->e.get w=0) fun u hu=>?_;rcases List.mem_append.1 hu with hu|hu
     ·exact⟨va.1.head u hu,ha u (by rw [ea];simp [hu])⟩
     ·obtain⟨s,hs,rfl⟩:=List.mem_map.1 hu;have hsz:s∈z.l:=by rw [hl];simp [hs]
      have hgs:g.1.gt s.1=true:=(hl ▸ z.v:Vld (g::ts)).1.head s hs;have h1:=hgs
      have h2:m.1=(m.1.sub g.1).add g.1:=by
       simp only [Ex.add,Ex.sub];refine Ex.ext' ?_ ?_ ?_ ?_ <;> simp only <;> omega
      have h3:(s.1.add (m.1.sub g.1))=(m.1.sub g.1).add s.1:=Ex.add_comm _ _;refine⟨?_,?_,fun w h1 h4=>?_⟩
      ·show m.1.gt (s.1.add (m.1.sub g.1))=true;rw [h3];rw [<- Ex.gt_add (m.1.sub g.1),<- h2] at h1;exact h1
      ·show wt _ (s.1.add (m.1.sub g.1))<=_;have h5:=wt_lt (z.v.2 g hgz).2 (z.v.2 s hsz).2 (hzd s hsz).1 (fun w h1 h2=>⟨(hzd s hsz).2 w h1 h2,(hzd g hgz).2 w h1 h2⟩) hgs;rw [wt_add,wt_sub];have:=hm.1;omega
      ·show (s.1.add (m.1.sub g.1)).get w=0;have h6:=(hzd s hsz).2 w h1 h4;have h7:=(hzd g hgz).2 w h1 h4;have h8:=hm.2 w h1 h4
       have h9:(m.1.sub g.1).get w=m.1.get w-g.1.get w:=by
        rcases w with _|_|_|w <;> rfl
       rw [Ex.get_add];omega
    have hi2:In (b0+(m.1::S).length*(bz+1)) (a-z*t):=by
     obtain⟨D,H,h1,h2,h3,h4⟩:=hi;obtain⟨L,K,k1,k2,k3,k4⟩:=hz.nrm;have e4:z*t=c (hd a)*(mono1 _ hq*nrm z):=by rw [ht,et,nrm];grind
     have i1:=(h4.hd a0).mul ((mono1_ind _ hq).mul k4);rw [Nat.one_mul,Nat.one_mul,<- e4] at i1;have i2:=(h4.up L).sub i1
     have hpw:2 ^ (b0+(m.1::S).length*(bz+1))=2 ^ (b0+S.length*(bz+1))*2 ^ bz*2:=by
      rw [List.length_cons,Nat.add_mul,Nat.one_mul,<- Nat.add_assoc,<- Nat.add_assoc,Nat.pow_succ,Nat.pow_add]
     have p1:=Nat.mul_le_mul h2 k2;have p2:=Nat.mul_le_mul h3 k2;have p3:=Nat.mul_le_mul h3 k3;exact⟨D*L,H*L+H*K,Nat.mul_pos h1 k1,by omega,by omega,i2⟩
    exact divO_ex hl hzd hz hB hbx hlb n (a-z*t) (out++[quoT m g]) (m.1::S) hS' hSb' (fun e he u hu=>by
     rcases List.mem_cons.1 he with rfl|he
     ·exact (hP u hu).1
     ·exact Ex.gt_trans (hSg e he m hma) (hP u hu).1) (fun u hu=>(hP u hu).2) hi2 (by rw [List.length_cons];omega)
   ·rw [if_neg hq];exact⟨_,rfl⟩
theorem divW_ex {v d M b0 bz:Nat} {a z:MP} (hv:v<4) (z0:z≠0) (ha:∀ w,w<v->a.deg w<=d) (hav:a.deg v<=M) (hz:∀ w,w<v->z.deg w<=d) (la:a.lo (v+1)) (lz:z.lo (v+1)) (ia:In b0 a) (iz:In bz z)
  (hbx:bx (wbx v d (wtM v d M))<=10000) (hlb:b0+bz+(bx (wbx v d (wtM v d M))+1)*(bz+1)<LB):∃ r,divW a.l z.l=some r:=by
 obtain⟨g,ts,hl⟩:=head_ex z0;have hd:∀ (p:MP) (w:Nat) (k:Int),p.deg w<=k->∀ t∈p.l,t.1.get w<=k:=fun p w k h t ht=>Int.le_trans (degP_le ht w) h
 obtain⟨r,hr⟩:=divO_ex (v:=v) (d:=d) (W:=wtM v d M) (b0:=b0) (dB:=wbx v d (wtM v d M)) hl (fun t ht=>⟨fun w hw=>hd z w d (hz w hw) t ht,fun w h1 h2=>fr_get (lz w h1 h2) ht⟩) iz
  (fun e he hw h=>wbx_in he hw h) hbx hlb fuel a [] [] List.nodup_nil (fun e h=>by cases h) (fun e h=>by cases h)
  (fun t ht=>by
   have hzr:∀ w,v<w->w<4->t.1.get w=0:=fun w h1 h2=>fr_get (la w h1 h2) ht
   exact⟨wt_le hv (fun w hw=>hd a w d (ha w hw) t ht) (hd a v M hav t ht) hzr,hzr⟩)
  (by simpa using ia) (by unfold fuel;simp only [List.length_nil];omega)
 exact⟨r,by rw [hl];exact hr⟩
def bxf (v x t:Nat) (w:Nat):Nat:=if w<v then x else if w=v then t else 0
theorem bxf_bx {v x t:Nat} (hv:v<4):bx (bxf v x t)=(t+1)*(x+1) ^ v:=by
 obtain rfl|rfl|rfl|rfl:v=0\/v=1\/v=2\/v=3:=by omega
 ·simp [bx,bxf]
 ·simp [bx,bxf,Nat.mul_comm]
 ·simp [bx,bxf,Nat.pow_succ,Nat.mul_comm]
 ·simp [bx,bxf,Nat.pow_succ,Nat.mul_comm]
theorem dg_bxf {v x t:Nat} {p:MP} (lp:p.lo (v+1)) (hx:∀ w,w<v->p.deg w<=x) (ht:p.deg v<=t):Dg (bxf v x t) p:=fun w hw=>by
 unfold bxf;split
 ·exact hx w (by assumption)
 ·split
  ·rename_i e;rw [e];exact ht
  ·have h:p.deg w<=0:=lp w (by omega) hw;exact h
theorem Dg.lo {v x t:Nat} {p:MP} (h:Dg (bxf v x t) p):p.lo (v+1):=fun w h1 h2=>by
 have:=h w h2;rw [bxf,if_neg (by omega),if_neg (by omega)] at this;exact this
theorem Dg.lo0 {v x:Nat} {p:MP} (h:Dg (bxf v x 0) p):p.lo v:=fun w h1 h2=>by
 have:=h w h2;rw [bxf,if_neg (by omega)] at this;have e:(if w=v then 0 else 0)=0:=by split <;> rfl
 rw [e] at this;exact this
theorem Dg.low {v x t:Nat} (hv:v<4) {p:MP} (h:Dg (bxf v x t) p):∀ w,w<v->p.deg w<=x:=fun w hw=>by
 have:=h w (by omega);rwa [bxf,if_pos hw] at this
theorem Dg.top {v x t:Nat} (hv:v<4) {p:MP} (h:Dg (bxf v x t) p):p.deg v<=t:=by
 have:=h v hv;rwa [bxf,if_neg (by omega),if_pos rfl] at this
def RowOk (D H:Nat) (d:Nat->Nat) (l:List Trm):Prop:=∃ p:MP,p.l=l/\Ind D H p/\Dg d p
theorem RowOk.nil (D H:Nat) (d:Nat->Nat):RowOk D H d []:=⟨0,rfl,Ind.zero D H,fun w _=>by rw [deg_zero];omega⟩
theorem RowOk.get {D H:Nat} {d:Nat->Nat} {L:List (List Trm)} (h:∀ c∈L,RowOk D H d c) (i:Nat):RowOk D H d (L.getD i []):=by
 rw [List.getD_eq_getElem?_getD]
 cases hi:L[i]? with
|none=>exact RowOk.nil D H d
|some c=>exact h c (List.mem_of_getElem? hi)
theorem RowOk.mul {D H D' H':Nat} {d d':Nat->Nat} {p q:List Trm} (h:RowOk D H d p) (h':RowOk D' H' d' q):RowOk (D*D') (H*H') (fun w=>d w+d' w) (mulP p q):=by
 obtain⟨a,rfl,h1,h2⟩:=h;obtain⟨b,rfl,k1,k2⟩:=h';exact⟨a*b,rfl,h1.mul k1,fun w hw=>Int.le_trans (deg_mul_le w a b (h2 w hw) (k2 w hw) (by omega)) (by simp)⟩
theorem RowOk.sub {D H H':Nat} {d:Nat->Nat} {p q:List Trm} (h:RowOk D H d p) (h':RowOk D H' d q):RowOk D (H+H') d (subP p q):=by
 obtain⟨a,rfl,h1,h2⟩:=h;obtain⟨b,rfl,k1,k2⟩:=h';exact⟨a - b,rfl,h1.sub k1,fun w hw=>by have:=deg_sub_le w a b;have:=h2 w hw;have:=k2 w hw;omega⟩
theorem RowOk.mono {D H H':Nat} {d:Nat->Nat} {p:List Trm} (h:RowOk D H d p) (hH:H<=H'):RowOk D H' d p:=by
 obtain⟨a,e,h1,h2⟩:=h;exact⟨a,e,h1.mono hH,h2⟩
theorem psStep_row {D R:List (List Trm)} {Dr Hr Db Hb:Nat} {dr db:Nat->Nat} (hD:∀ c∈D,RowOk Db Hb db c) (hR:∀ c∈R,RowOk Dr Hr dr c):∀ c∈psStep D R,RowOk (Dr*Db) (Hr*Hb+Hr*Hb) (fun w=>dr w+db w) c:=fun c hc=>by
 simp only [psStep,List.mem_map] at hc;obtain⟨i,-,rfl⟩:=hc;split
 ·exact ((RowOk.get hR _).mul (RowOk.get hD _)).sub ((RowOk.get hR _).mul (RowOk.get hD _))
 ·exact ((RowOk.get hR _).mul (RowOk.get hD _)).mono (by omega)
theorem psRun_row {D:List (List Trm)} {Da Ha Db Hb s:Nat} {da db:Nat->Nat} (hD:∀ c∈D,RowOk Db Hb db c)
  (hw:∀ j,j<=s->∀ c,RowOk (Da*Db ^ j) (Ha*(2*Hb) ^ j) (fun w=>da w+j*db w) c->wpB c=true) :
  ∀ (f j:Nat) (R:List (List Trm)),R.length+j<=s+(D.length-1)\/R.length<=D.length-1->j<=s->(∀ c∈R,RowOk (Da*Db ^ j) (Ha*(2*Hb) ^ j) (fun w=>da w+j*db w) c) ->
   psBW D f R=true/\∃ i,i<=s/\∀ c∈psRun D f R,RowOk (Da*Db ^ i) (Ha*(2*Hb) ^ i) (fun w=>da w+i*db w) c
|0,j,R,_,hj,hR=>⟨rfl,j,hj,hR⟩
|f+1,j,R,hl,hj,hR=>by
  unfold psBW psRun;split
  ·rename_i hlt;have h1:=psStep_row hD hR
   have h2:∀ c∈psStep D R,RowOk (Da*Db ^ (j+1)) (Ha*(2*Hb) ^ (j+1)) (fun w=>da w+(j+1)*db w) c:=fun c hc=>by
    have:=h1 c hc;have e1:Da*Db ^ j*Db=Da*Db ^ (j+1):=by rw [Nat.pow_succ,Nat.mul_assoc]
    have e2:Ha*(2*Hb) ^ j*Hb+Ha*(2*Hb) ^ j*Hb=Ha*(2*Hb) ^ (j+1):=by
     rw [Nat.pow_succ,<- Nat.mul_two,Nat.mul_assoc,Nat.mul_assoc,Nat.mul_comm Hb 2]
    have e3:(fun w=>da w+j*db w+db w)=fun w=>da w+(j+1)*db w:=funext fun w=>by rw [Nat.add_mul,Nat.one_mul,Nat.add_assoc]
    rw [e1,e2,e3] at this;exact this
   obtain⟨k1,k2⟩:=psRun_row hD hw f (j+1) (psStep D R) (by rw [psStep_len];omega) (by omega) h2;refine⟨?_,k2⟩;rw [Bool.and_eq_true,List.all_eq_true];exact⟨fun c hc=>hw j hj c (hR c hc),k1⟩
  ·exact⟨rfl,j,hj,hR⟩
theorem asum_shift (p:List Trm) (v:Nat) (i:Int):asum (shiftL p v i)=asum p:=by
 unfold shiftL
 induction p with
|nil=>rfl
|cons u l ih=>simp only [List.map_cons,asum,ih]
theorem fromL_size {v D H:Nat} {d:Nat->Nat} (hv:v<4) (hdv:d v=0):∀ (L:List (List Trm)) (i:Nat),(∀ c∈L,RowOk D H d c) ->
  (∀ t∈fromL v i L,(t.1.nat=true/\(∀ w,w<4->w≠v->t.1.get w<=d w)/\t.1.get v<=((i+L.length:Nat):Int))/\Dv D t.2)/\(D:Rat)*asum (fromL v i L)<=((L.length*H:Nat):Rat)/\(fromL v i L).length<=L.length*bx d
|[],i,_=>⟨fun t ht=>(by cases ht),by
   show (D:Rat)*0<=((0*H:Nat):Rat)
   rw [Rat.mul_zero];exact nr_nonneg _,by simp [fromL]⟩
|c::L,i,h=>by
  obtain⟨p,rfl,h1,h2⟩:=h c (by simp);obtain⟨k1,k2,k3⟩:=fromL_size hv hdv L (i+1) fun c hc=>h c (by simp [hc])
  have e:fromL v (i:Int) (p.l::L)=shiftL p.l v i++fromL v ((i+1:Nat):Int) L:=by
   rw [fromL];rfl
  rw [e];refine⟨fun t ht=>?_,?_,?_⟩
  ·rcases List.mem_append.1 ht with ht|ht
   ·obtain⟨u,hu,rfl⟩:=List.mem_map.1 ht;obtain⟨n1,n2⟩:=h2.inB u hu;have hu0:u.1.get v=0:=by have:=n2 v hv;have:=Ex.nat_get n1 v;omega
    refine⟨⟨Ex.put_nat n1 v (by omega),fun w hw hne=>?_,?_⟩,h1.d u hu⟩
    ·show (u.1.put v _).get w<=_;rw [Ex.get_put_ne _ hv hw (Ne.symm hne)];exact n2 w hw
    ·show (u.1.put v (u.1.get v+i)).get v<=_;rw [Ex.get_put,hu0];simp only [List.length_cons];omega
   ·obtain⟨⟨m1,m2,m3⟩,m4⟩:=k1 t ht;exact⟨⟨m1,m2,by simp only [List.length_cons];omega⟩,m4⟩
  ·rw [asum_append,asum_shift,Rat.mul_add,List.length_cons,Nat.add_mul,Nat.one_mul,Rat.natCast_add];have:=h1.a;have e3:(D:Rat)*p.am=(D:Rat)*asum p.l:=rfl;rw [e3] at this;grind
  ·have h3:=h2.len;rw [List.length_append,List.length_cons,Nat.add_mul,Nat.one_mul];have:(shiftL p.l v i).length=p.l.length:=by unfold shiftL;rw [List.length_map]
   omega
theorem pow_le_two {x a j:Nat} (h:x<=2 ^ a):x ^ j<=2 ^ (a*j):=by rw [Nat.pow_mul];exact Nat.pow_le_pow_left h j
theorem prem_size {v A al M s lM:Nat} {a b:MP} (hv:v<4) (b0:b≠0) (la:a.lo (v+1)) (lb:b.lo (v+1)) (ha:∀ w,w<v->a.deg w<=A) (hb:∀ w,w<v->b.deg w<=A) (ia:In al a) (ib:In al b)
  (hs:a.deg v+1<=b.deg v+s) (hM:b.deg v<=M) (hlM:M<=2 ^ lM) (hbx:(M+1)*((s+1)*A+1) ^ v<=10000) (hlb:(s+1)*(al+1)+lM<LB) :
  psO a.l b.l v=some (prem v a b).l/\In ((s+1)*(al+1)+lM) (prem v a b)/\(∀ w,w<v->(prem v a b).deg w<=((s+1)*A:Nat))/\(prem v a b).deg v<=M/\(prem v a b).lo (v+1):=by
 obtain⟨Da,Ha,a1,a2,a3,a4⟩:=ia;obtain⟨Db,Hb,b1,b2,b3,b4⟩:=ib
 have hrow:∀ (p:MP) (D H:Nat),p.lo (v+1)->(∀ w,w<v->p.deg w<=A)->Ind D H p->∀ c∈coeffsP p.l v,RowOk D H (bxf v A 0) c:=fun p D H lp hp hi c hc=>by
  obtain⟨n,rfl⟩:=mem_coeffsP hc;refine⟨p.co v n,rfl,hi.co v n,fun w hw=>?_⟩;unfold bxf;split
  ·exact co_deg_lt v n p hw hv (hp w (by assumption))
  ·have h1:(p.co v n).deg w<=0:=lo_co hv lp w (by omega) hw;omega
 have hdeg:=deg_pos b0 v;have lD:(coeffsP b.l v).length=(b.deg v).toNat+1:=by rw [coeffsP_length];have e:degP b.l v=b.deg v:=rfl;omega
 have lR:((coeffsP a.l v).length:Int)<=a.deg v+1:=by rw [coeffsP_length];have e:degP a.l v=a.deg v:=rfl;have:=deg_ge v a;omega
 have hbx':bx (bxf v ((s+1)*A) M)<=10000:=by rw [bxf_bx hv];exact hbx
 have hdm:∀ j,j<=s->∀ w,bxf v A 0 w+j*bxf v A 0 w<=bxf v ((s+1)*A) M w:=fun j hj w=>by
  unfold bxf;split
  ·have:=Nat.mul_le_mul_right A hj;rw [Nat.add_mul];omega
  ·split <;> simp
 have hin:∀ j,j<=s->Da*Db ^ j<=2 ^ ((s+1)*(al+1))/\Ha*(2*Hb) ^ j<=2 ^ ((s+1)*(al+1)):=fun j hj=>by
  have p1:=pow_le_two (j:=j) b2;have p2:(2*Hb) ^ j<=2 ^ ((al+1)*j):=pow_le_two (by rw [Nat.pow_succ];omega);have q1:=Nat.mul_le_mul a2 p1;have q2:=Nat.mul_le_mul a3 p2;rw [<- Nat.pow_add] at q1 q2;have r0:=Nat.mul_le_mul_left (al+1) hj;have r1:al*j<=(al+1)*j:=Nat.mul_le_mul_right _ (by omega);have r2:(s+1)*(al+1)=(al+1)*s+(al+1):=by rw [Nat.mul_comm,Nat.mul_add,Nat.mul_one]
  exact⟨Nat.le_trans q1 (Nat.pow_le_pow_right (by omega) (by omega)),Nat.le_trans q2 (Nat.pow_le_pow_right (by omega) (by omega))⟩
 have hpos:∀ j,0<Da*Db ^ j:=fun j=>Nat.mul_pos a1 (Nat.pow_pos b1)
 have hwp:∀ j,j<=s->∀ c,RowOk (Da*Db ^ j) (Ha*(2*Hb) ^ j) (fun w=>bxf v A 0 w+j*bxf v A 0 w) c->wpB c=true:=fun j hj c hc=>by
  obtain⟨p,rfl,h1,h2⟩:=hc;exact wp_of (h2.mono (hdm j hj)) ⟨_,_,hpos j,(hin j hj).1,(hin j hj).2,h1⟩ hbx' (by omega)
 obtain⟨k1,i,hi,k2⟩:=psRun_row (Da:=Da) (Ha:=Ha) (da:=bxf v A 0) (hrow b Db Hb lb hb b4) hwp (coeffsP a.l v).length 0 (coeffsP a.l v)
  (by rw [lD];omega) (by omega) (fun c hc=>by
   have:=hrow a Da Ha la ha a4 c hc;have e3:(fun w=>bxf v A 0 w+0*bxf v A 0 w)=bxf v A 0:=funext fun w=>by rw [Nat.zero_mul,Nat.add_zero]
   rw [Nat.pow_zero,Nat.pow_zero,Nat.mul_one,Nat.mul_one,e3];exact this)
 have hlen:=psRun_len (coeffsP b.l v) (coeffsP a.l v).length (coeffsP a.l v) (by omega);obtain⟨R,hR⟩:∃ R,R=psRun (coeffsP b.l v) (coeffsP a.l v).length (coeffsP a.l v):=⟨_,rfl⟩;rw [<- hR] at k2 hlen;have hRM:R.length<=M:=by rw [lD] at hlen;omega
 have hdv0:bxf v A 0 v+i*bxf v A 0 v=0:=by simp [bxf]
 obtain⟨f1,f2,f3⟩:=fromL_size hv (d:=fun w=>bxf v A 0 w+i*bxf v A 0 w) hdv0 R 0 k2
 have hL:R.length*(Ha*(2*Hb) ^ i)<=2 ^ ((s+1)*(al+1)+lM):=by
  rw [Nat.add_comm,Nat.pow_add];exact Nat.mul_le_mul (by omega) (hin i hi).2
 have hD:Da*Db ^ i<=2 ^ ((s+1)*(al+1)+lM):=Nat.le_trans (hin i hi).1 (Nat.pow_le_pow_right (by omega) (by omega))
 have hbox:∀ t∈fromL v ((0:Nat):Int) R,InB (bxf v ((s+1)*A) M) t.1:=fun t ht=>by
  obtain⟨⟨m1,m2,m3⟩,-⟩:=f1 t ht;refine⟨m1,fun w hw=>?_⟩;by_cases hwv:w=v
  ·subst hwv;rw [bxf,if_neg (by omega),if_pos rfl];omega
  ·have h6:t.1.get w<=((bxf v A 0 w+i*bxf v A 0 w:Nat):Int):=m2 w hw hwv;have h7:=hdm i hi w;omega
 have hlen2:(fromL v ((0:Nat):Int) R).length<=10000:=by
  have h1:bx (fun w=>bxf v A 0 w+i*bxf v A 0 w)<=((s+1)*A+1) ^ v:=by
   have e:(fun w=>bxf v A 0 w+i*bxf v A 0 w)=bxf v (A+i*A) 0:=funext fun w=>by
    unfold bxf;split
    ·rfl
    ·split <;> simp
   rw [e,bxf_bx hv,Nat.one_mul];exact Nat.pow_le_pow_left (by have:=Nat.mul_le_mul_right A hi;rw [Nat.add_mul s 1 A];omega) v
  have h2:=Nat.mul_le_mul hRM h1;have h3:(M+1)*((s+1)*A+1) ^ v=M*((s+1)*A+1) ^ v+((s+1)*A+1) ^ v:=by rw [Nat.add_mul,Nat.one_mul]
  omega
 have hb2:=bdB_of (b:=(s+1)*(al+1)+lM) hbox hbx' hlen2 (hpos i) hD hL (fun t ht=>(f1 t ht).2) f2 hlb;have hpl:(prem v a b).l=canon (fromL v ((0:Nat):Int) R):=by rw [hR];rfl
 have hind:Ind (Da*Db ^ i) (R.length*(Ha*(2*Hb) ^ i)) (prem v a b):=by
  refine⟨fun t ht=>?_,?_⟩
  ·rw [hpl] at ht;exact canon_dv (fun t ht=>(f1 t ht).2) t ht
  ·refine Rat.le_trans (Rat.mul_le_mul_of_nonneg_left ?_ (nr_nonneg _)) f2;show asum (prem v a b).l<=_;rw [hpl];exact canon_asum _
 have hdg:Dg (bxf v ((s+1)*A) M) (prem v a b):=dg_of fun t ht=>by
  rw [hpl] at ht;exact canon_ex (P:=InB (bxf v ((s+1)*A) M)) hbox t ht
 have hin2:In ((s+1)*(al+1)+lM) (prem v a b):=⟨_,_,hpos i,hD,hL,hind⟩;refine⟨?_,hin2,hdg.low hv,hdg.top hv,hdg.lo⟩;have hw:=wp_of hdg hin2 hbx' hlb;unfold psO;simp only;rw [<- hR,if_pos ⟨fun h=>b0 (zero_iff.2 h),k1,hb2,List.all_eq_true.2 fun c hc=>hwp i hi c (k2 c hc)⟩];have:=g1_of hw;rw [hpl] at this ⊢;exact this
end Q
end
