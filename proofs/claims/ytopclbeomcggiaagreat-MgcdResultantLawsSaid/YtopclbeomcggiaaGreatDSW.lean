/- MgcdResultantLaws, plain: resultants with products and with v - p. No program in sight. -/
import Derived.Test.YtopclbeomcggiaaGreatD34
import Derived.Test.YtopclbeomcggiaaGreatDSV
set_option linter.unusedVariables false
set_option linter.unusedSimpArgs false
namespace Q
open Go Go.Proofs.YtopclbeomcggiaaGreat
structure InP (u v B E : Nat) (p : List Trm) : Prop where
 vl : Vld p
 d : ∀ t ∈ p,Dv 1 t.2
 b : asum p ≤ (B : Rat)
 e : ∀ t ∈ p,t.1.get u ≤ E ∧ t.1.get v ≤ E
 o : ∀ t ∈ p,∀ x,x < 4 → x ≠ u → x ≠ v → t.1.get x=0
theorem InP.mono {u v B E B' E' : Nat} {p : List Trm} (h : InP u v B E p) (hB : B ≤ B') (hE : E ≤ E') : InP u v B' E' p :=
 ⟨h.vl,h.d,Rat.le_trans h.b (Rat.natCast_le_natCast.2 hB),fun t ht=>by have:=h.e t ht; omega,h.o⟩
theorem InP.bd {u v B E : Nat} {p : List Trm} (h : InP u v B E p) : Bd ⟨1,B,E,p.length⟩ p:=by
 refine ⟨Nat.le_refl _,fun t ht=>?_,h.d,h.b⟩
 have g : ∀ x,x < 4 → 0 ≤ t.1.get x ∧ t.1.get x ≤ E:=fun x hx=>by
  refine ⟨Ex.nat_get (h.vl.nat t ht) x,?_⟩
  by_cases hxu : x=u
  ·subst hxu; exact (h.e t ht).1
  ·by_cases hxv : x=v
   ·subst hxv; exact (h.e t ht).2
   ·rw [h.o t ht x hx hxu hxv]; omega
 have g0:=g 0 (by omega)
 have g1:=g 1 (by omega)
 have g2:=g 2 (by omega)
 have g3:=g 3 (by omega)
 simp only [Ex.get] at g0 g1 g2 g3
 dsimp only
 omega
theorem InP.mul {u v B E B' E' : Nat} {p q : List Trm} (h : InP u v B E p) (h' : InP u v B' E' q) : InP u v (B * B') (E + E') (mulP p q):=by
 have hb:=(h.bd.prods h'.bd).canon
 refine ⟨Vld.mul _ _,hb.d,hb.b,?_,?_⟩
 ·exact canon_ex (P:=fun e=>e.get u ≤ ((E + E' : Nat) : Int) ∧ e.get v ≤ ((E + E' : Nat) : Int)) fun t ht=>by
   obtain ⟨a,ha,b,hb',rfl⟩:=mem_prods ht
   show (a.1.add b.1).get u ≤ _ ∧ (a.1.add b.1).get v ≤ _
   rw [get_add,get_add]
   have:=h.e a ha
   have:=h'.e b hb'
   omega
 ·exact canon_ex (P:=fun e=>∀ x,x < 4 → x ≠ u → x ≠ v → e.get x=0) fun t ht x hx hxu hxv=>by
   obtain ⟨a,ha,b,hb',rfl⟩:=mem_prods ht
   show (a.1.add b.1).get x=0
   rw [get_add,h.o a ha x hx hxu hxv,h'.o b hb' x hx hxu hxv]; rfl
theorem InP.coeff {u v B E : Nat} {p : List Trm} (h : InP u v B E p) (hu : u < 4) (hv : v < 4) (huv : u ≠ v) (i : Int) : En u B E (coeffP p v i):=by
 have hb:=bd_coeff h.bd v i
 refine ⟨h.vl.coeff v i,hb.d,hb.b,fun t ht=>?_,fun t ht x hx hxu=>?_⟩
 ·obtain ⟨s,hs,rfl⟩:=List.mem_map.1 ht
  have:=(List.mem_filter.1 hs).1
  show (s.1.put v 0).get u ≤ _
  rw [Ex.get_put_ne _ hv hu (Ne.symm huv)]
  exact (h.e s this).1
 ·obtain ⟨s,hs,rfl⟩:=List.mem_map.1 ht
  have:=(List.mem_filter.1 hs).1
  show (s.1.put v 0).get x=0
  by_cases hxv : x=v
  ·subst hxv; exact Ex.get_put _ _ _
  ·rw [Ex.get_put_ne _ hv hx (Ne.symm hxv)]
   exact h.o s this x hx hxu hxv
theorem deg_nat {p : List Trm} (h : Vld p) (hne : p ≠ []) (v : Nat) : degP p v=((degP p v).toNat : Int):=by
 obtain ⟨t,ht,e⟩:=degP_mem hne h.nat v
 have:=Ex.nat_get (h.nat t ht) v
 omega
theorem InP.deg {u v B E : Nat} {p : List Trm} (h : InP u v B E p) (hne : p ≠ []) : (degP p v).toNat ≤ E:=by
 obtain ⟨t,ht,e⟩:=degP_mem hne h.vl.nat v
 have:=h.e t ht
 omega
section
variable {u v : Nat} {a b c : List Trm}
theorem sy_of (hu : u < 4) (hv : v < 4) (huv : u ≠ v) (ha : InP u v 15 2 a) (hb : InP u v 225 4 b) (na : a ≠ []) (nb : b ≠ []) :
  Sy u 15 225 4 (degP a v).toNat (degP b v).toNat (coeffsP a v) (coeffsP b v) (coeffP a v (degP a v)):=by
 have da:=deg_nat ha.vl na v
 have db:=deg_nat hb.vl nb v
 have row : ∀ {p : List Trm} {B E : Nat},InP u v B E p → ∀ i j,En u B E (rowE (coeffsP p v) i j):=fun {p B E} hp i j=>by
  rw [rowE]
  split
  ·next h =>
   rw [coeffsP_length] at h
   rw [coeffsP_length,coeffsP_get (by omega)]; exact hp.coeff hu hv huv _
  ·exact En.nil _ _ _
 refine ⟨hu,by rw [coeffsP_length]; omega,by rw [coeffsP_length]; omega,?_,ha.vl.coeff_ne na v,row ha,row hb,ha.coeff hu hv huv _,by omega,by omega⟩
 rw [coeffsP_get (by omega),← da]
theorem resO_eq (va : Vld a) (vb : Vld b) (na : a ≠ []) (nb : b ≠ []) : resO a b v=resS ((degP a v).toNat + (degP b v).toNat) ((degP a v).toNat + (degP b v).toNat) (syl (coeffsP a v) (coeffsP b v)) oneP false:=by
 have da:=deg_nat va na v
 have db:=deg_nat vb nb v
 rw [resO,if_neg (by rintro (h | h) <;> contradiction),coeffsP_length,coeffsP_length,show (degP a v + 1).toNat - 1=(degP a v).toNat by omega,show (degP b v + 1).toNat - 1=(degP b v).toNat by omega]
theorem sL_coeffs (x : Pt) (g : Nat → Rat) (vb : Vld b) : sL x g (coeffsP b v)=Lf (fun e=>mon x (e.put v 0) * g (e.get v).toNat) b:=by
 rw [sL,coeffsP_length,Lf_split x v g _ vb.nat degP_lt]
 exact rsum_congr fun i hi=>by rw [coeffsP_get hi]
theorem Lf_pow (x : Pt) (c : Rat) (p : List Trm) : Lf (fun e=>mon x (e.put v 0) * c ^ (e.get v).toNat) p=ev (x.put v c) p:=Lf_congr fun t _=>(mon_put x t.1 v c).symm
theorem res_val (hu : u < 4) (hv : v < 4) (huv : u ≠ v) (ha : InP u v 15 2 a) (hb : InP u v 225 4 b) (na : a ≠ []) (nb : b ≠ []) :
  ∃ d,resO a b v=some d ∧ En u (2 ^ 100) 40 d ∧ ∀ x,ev x (coeffP a v (degP a v)) ≠ 0 →
   (degP a v=0 → ev x d=ev x (coeffP a v (degP a v)) ^ (degP b v).toNat) ∧
   (degP a v=1 → ∀ c,ev x (coeffP a v 0)=-(c * ev x (coeffP a v 1)) → ev x d=ev x (coeffP a v 1) ^ (degP b v).toNat * ev (x.put v c) b) ∧
   (degP a v=2 → ∀ c1 c0,ev x (coeffP a v 1)=c1 * ev x (coeffP a v 2) → ev x (coeffP a v 0)=c0 * ev x (coeffP a v 2) → ev x d=ev x (coeffP a v 2) ^ (degP b v).toNat * nrm c1 c0 (hq1 x v c1 c0 b) (hq2 x v c1 c0 b)):=by
 have sy:=sy_of hu hv huv ha hb na nb
 have hm:=ha.deg na
 have hn:=hb.deg nb
 have da:=deg_nat ha.vl na v
 have db:=deg_nat hb.vl nb v
 rw [resO_eq ha.vl hb.vl na nb]
 have g : ∀ i : Nat,i < (degP a v + 1).toNat → (coeffsP a v).getD i []=coeffP a v i:=fun i hi=>coeffsP_get hi
 obtain h0 | h0 | h0 : (degP a v).toNat=0 ∨ (degP a v).toNat=1 ∨ (degP a v).toNat=2:=by omega
 ·rw [h0] at sy ⊢
  obtain ⟨d,h1,h2,h3⟩:=res_deg0 sy hn
  exact ⟨d,h1,h2,fun x hx=>⟨fun _=>h3 x hx,fun h=>by omega,fun h=>by omega⟩⟩
 ·rw [h0] at sy ⊢
  obtain ⟨d,h1,h2,h3⟩:=res_deg1 sy hn
  refine ⟨d,h1,h2,fun x hx=>⟨fun h=>by omega,fun h c hc=>?_,fun h=>by omega⟩⟩
  rw [g 0 (by omega)] at h3
  have e1 : coeffP a v (degP a v)=coeffP a v 1:=by rw [h]
  rw [e1] at h3 hx
  rw [h3 x c hx hc,sL_coeffs x _ hb.vl,Lf_pow]
 ·rw [h0] at sy ⊢
  obtain ⟨d,h1,h2,h3⟩:=res_deg2 sy hn
  refine ⟨d,h1,h2,fun x hx=>⟨fun h=>by omega,fun h=>by omega,fun h c1 c0 k1 k0=>?_⟩⟩
  rw [g 0 (by omega),g 1 (by omega)] at h3
  have e1 : coeffP a v (degP a v)=coeffP a v 2:=by rw [h]
  rw [e1] at h3 hx
  rw [h3 x c1 c0 hx k1 k0,sL_coeffs x _ hb.vl,sL_coeffs x _ hb.vl]; rfl
theorem res_mul (hu : u < 4) (hv : v < 4) (huv : u ≠ v) (ha : InP u v 15 2 a) (hb : InP u v 15 2 b) (hc : InP u v 15 2 c) :
  ∃ p q,resO a b v=some p ∧ resO a c v=some q ∧ resO a (mulP b c) v=some (mulP p q) ∧ En u (2 ^ 100) 40 p ∧ En u (2 ^ 100) 40 q ∧ En u (2 ^ 100) 40 (mulP p q):=by
 by_cases na : a=[]
 ·subst na
  have e : ∀ q,resO [] q v=some []:=fun q=>by rw [resO,if_pos (.inl rfl)]
  exact ⟨[],[],e _,e _,e _,En.nil _ _ _,En.nil _ _ _,En.nil _ _ _⟩
 have e0 : resO a [] v=some []:=by rw [resO,if_pos (.inr rfl)]
 have hbc:=hb.mul hc
 by_cases nb : b=[]
 ·subst nb
  by_cases nc : c=[]
  ·subst nc; exact ⟨[],[],e0,e0,e0,En.nil _ _ _,En.nil _ _ _,En.nil _ _ _⟩
  ·obtain ⟨d,h1,h2,-⟩:=res_val hu hv huv ha (hc.mono (by omega) (by omega)) na nc
   exact ⟨[],d,e0,h1,e0,En.nil _ _ _,h2,En.nil _ _ _⟩
 by_cases nc : c=[]
 ·subst nc
  obtain ⟨d,h1,h2,-⟩:=res_val hu hv huv ha (hb.mono (by omega) (by omega)) na nb
  refine ⟨d,[],h1,e0,?_,h2,En.nil _ _ _,by rw [mulP_nil_right]; exact En.nil _ _ _⟩
  rw [mulP_nil_right,mulP_nil_right]; exact e0
 have nbc : mulP b c ≠ []:=fun h=>by rcases (mulP_nil_iff hb.vl hc.vl).1 h with h | h <;> contradiction
 obtain ⟨p,p1,p2,p3⟩:=res_val hu hv huv ha (hb.mono (by omega) (by omega)) na nb
 obtain ⟨q,q1,q2,q3⟩:=res_val hu hv huv ha (hc.mono (by omega) (by omega)) na nc
 obtain ⟨r,r1,r2,r3⟩:=res_val hu hv huv ha (hbc.mono (by omega) (by omega)) na nbc
 have dm : (degP (mulP b c) v).toNat=(degP b v).toNat + (degP c v).toNat:=by
  have:=degP_mul hb.vl hc.vl nb nc v
  have:=deg_nat hb.vl nb v
  have:=deg_nat hc.vl nc v
  omega
 have e : r=mulP p q:=by
  refine ev_off r2.v (Vld.mul _ _) (ha.vl.coeff v (degP a v)) (ha.vl.coeff_ne na v) fun x hx=>?_
  obtain ⟨p4,p5,p6⟩:=p3 x hx
  obtain ⟨q4,q5,q6⟩:=q3 x hx
  obtain ⟨r4,r5,r6⟩:=r3 x hx
  rw [ev_mul x p2.v.nat q2.v.nat]
  have hm:=ha.deg na
  have da:=deg_nat ha.vl na v
  obtain h0 | h0 | h0 : degP a v=0 ∨ degP a v=1 ∨ degP a v=2:=by omega
  ·rw [p4 h0,q4 h0,r4 h0,dm,rpow_add]
  ·rw [h0] at hx
   obtain ⟨c0,e0⟩ : ∃ c0,ev x (coeffP a v 0)=-(c0 * ev x (coeffP a v 1)):=⟨-(ev x (coeffP a v 0) / ev x (coeffP a v 1)),by grind⟩
   rw [p5 h0 c0 e0,q5 h0 c0 e0,r5 h0 c0 e0,dm,rpow_add,ev_mul _ hb.vl.nat hc.vl.nat]; grind
  ·rw [h0] at hx
   obtain ⟨c1,e1⟩ : ∃ c1,ev x (coeffP a v 1)=c1 * ev x (coeffP a v 2):=⟨ev x (coeffP a v 1) / ev x (coeffP a v 2),by grind⟩
   obtain ⟨c0,e0⟩ : ∃ c0,ev x (coeffP a v 0)=c0 * ev x (coeffP a v 2):=⟨ev x (coeffP a v 0) / ev x (coeffP a v 2),by grind⟩
   rw [p6 h0 c1 c0 e1 e0,q6 h0 c1 c0 e1 e0,r6 h0 c1 c0 e1 e0,dm,rpow_add,nrm_mul x v c1 c0 hb.vl.nat hc.vl.nat]; grind
 subst e
 exact ⟨p,q,p1,q1,r1,p2,q2,r2⟩
end
theorem Lf_scale1 (f : Ex → Rat) (l : List Trm) : Lf f (scaleP l (-1))=- Lf f l:=by
 have e : scaleP l (-1)=l.map fun t=>(t.1,t.2 * -1):=by unfold scaleP; rw [if_neg (by decide +kernel)]
 rw [e,Lf_map f _ (fun e=>(-1) * f e) l fun t _=>by show t.2 * -1 * f t.1=t.2 * ((-1) * f t.1); grind,Lf_smul]; grind
theorem Lf_subP (f : Ex → Rat) {p q : List Trm} (h : NatL p) (h' : Vld q) : Lf f (subP p q)=Lf f p - Lf f q:=by
 rw [subP,addP,(canon_eqv (h.append (h'.scale (-1)).nat)) _,Lf_append,Lf_scale1]; grind
theorem sub_line {u v : Nat} {l : List Trm} (hu : u < 4) (hv : v < 4) (huv : u ≠ v) (h : En u 15 2 l) : InP u v 225 4 (subP (varP v) l) ∧ degP (subP (varP v) l) v=1:=by
 have hn:=h.neg
 have hb:=(((Pk.var v).b).append (hn.bd hu)).canon
 have lv : ∀ t ∈ l,t.1.get v=0:=fun t ht=>h.o t ht v hv (Ne.symm huv)
 have ex : ∀ t ∈ varP v ++ scaleP l (-1),(t.1.get u ≤ 4 ∧ t.1.get v ≤ 1) ∧ ∀ x,x < 4 → x ≠ u → x ≠ v → t.1.get x=0:=fun t ht=>by
  rcases List.mem_append.1 ht with ht | ht
  ·rw [show t=(unitE v,(1 : Rat)) from List.mem_singleton.1 ht]
   refine ⟨⟨?_,by show (Ex.put e0 v 1).get v ≤ 1; rw [Ex.get_put]; omega⟩,fun x hx _ hxv=>?_⟩
   ·show (Ex.put e0 v 1).get u ≤ 4
    rw [Ex.get_put_ne _ hv hu (Ne.symm huv)]
    rcases u with _ | _ | _ | u <;> simp [Ex.get,e0]
   ·show (Ex.put e0 v 1).get x=0
    rw [Ex.get_put_ne _ hv hx (Ne.symm hxv)]
    rcases x with _ | _ | _ | x <;> rfl
  ·refine ⟨⟨by have:=hn.e t ht; omega,by rw [hn.o t ht v hv (Ne.symm huv)]; omega⟩,fun x hx hxu _=>hn.o t ht x hx hxu⟩
 have ex':=canon_ex (P:=fun e=>(e.get u ≤ 4 ∧ e.get v ≤ 1) ∧ ∀ x,x < 4 → x ≠ u → x ≠ v → e.get x=0) ex
 refine ⟨⟨Vld.sub _ _,fun t ht=>(hb.d t ht).dvd (by show Nat.lcm 1 1 ∣ 1; decide),Rat.le_trans hb.b (Rat.natCast_le_natCast.2 (by show 1 + 15 ≤ 225; omega)),fun t ht=>by have:=(ex' t ht).1; omega,fun t ht=>(ex' t ht).2⟩,?_⟩
 have hc : cf (subP (varP v) l) (unitE v) ≠ 0:=by
  unfold cf
  rw [Lf_subP _ (Vld.var v).nat h.v]
  have h2 : Lf (fun x=>if x=unitE v then 1 else 0) l=0:=by
   have : Lf (fun x=>if x=unitE v then 1 else 0) l=Lf (fun _=>0) l:=by
    refine Lf_congr fun t ht=>if_neg fun he=>?_
    have:=lv t ht
    rw [he] at this
    rw [show unitE v=Ex.put e0 v 1 from rfl,Ex.get_put] at this
    omega
   rw [this,Lf_zero]
  rw [h2]
  show (1 : Rat) * (if unitE v=unitE v then 1 else 0) + 0 - 0 ≠ 0
  rw [if_pos rfl]; decide +kernel
 obtain ⟨t,ht,he⟩:=cf_in hc
 have h1:=degP_le ht v
 rw [he,show unitE v=Ex.put e0 v 1 from rfl,Ex.get_put] at h1
 obtain ⟨s,hs,he'⟩:=degP_mem (List.ne_nil_of_mem ht) (Vld.sub _ _).nat v
 have:=(ex' s hs).1
 omega
theorem Lf_line (x : Pt) (g : Nat → Rat) {u v : Nat} {l : List Trm} (hv : v < 4) (huv : u ≠ v) (h : En u 15 2 l) : Lf (fun e=>mon x (e.put v 0) * g (e.get v).toNat) (subP (varP v) l)=g 1 - g 0 * ev x l:=by
 rw [Lf_subP _ (Vld.var v).nat h.v]
 have h2 : Lf (fun e=>mon x (e.put v 0) * g (e.get v).toNat) l=Lf (fun e=>g 0 * mon x e) l:=Lf_congr fun t ht=>by
  have e:=h.o t ht v hv (Ne.symm huv)
  rw [e]
  have e2 : t.1.put v 0=t.1:=by rw [← e,Ex.put_get]
  rw [e2]; show _ * g 0=_; grind
 rw [h2,Lf_smul]
 show (1 : Rat) * (mon x ((Ex.put e0 v 1).put v 0) * g ((Ex.put e0 v 1).get v).toNat) + 0 - _=_
 rw [Ex.put_put,Ex.get_put]
 have : mon x (Ex.put e0 v 0)=1:=by
  have : Ex.put e0 v 0=e0:=by rcases v with _ | _ | _ | v <;> rfl
  rw [this]
  show x.1 ^ 0 * x.2.1 ^ 0 * x.2.2.1 ^ 0 * x.2.2.2 ^ 0=1
  simp only [Rat.pow_zero]; decide +kernel
 rw [this]
 show (1 : Rat) * (1 * g 1) + 0 - g 0 * ev x l=_
 grind
theorem res_line {u v : Nat} {a l : List Trm} (hu : u < 4) (hv : v < 4) (huv : u ≠ v) (ha : InP u v 15 2 a) (h : En u 15 2 l) :
  ∃ s,resO a (subP (varP v) l) v=some s ∧ s=(if degP a v=1 then subP [] (substP a v l) else substP a v l) ∧ En u (2 ^ 100) 40 s:=by
 by_cases na : a=[]
 ·subst na
  exact ⟨[],by rw [resO,if_pos (.inl rfl)],rfl,En.nil _ _ _⟩
 obtain ⟨hb,hd⟩:=sub_line hu hv huv h
 have nb : subP (varP v) l ≠ []:=fun e=>by rw [e,degP_nil] at hd; omega
 obtain ⟨d,h1,h2,h3⟩:=res_val hu hv huv ha hb na nb
 refine ⟨d,h1,?_,h2⟩
 have hm:=ha.deg na
 have da:=deg_nat ha.vl na v
 have hs : ∀ x,ev x (substP a v l)=rsum (fun n=>ev x (coeffP a v n) * ev x l ^ n) (degP a v + 1).toNat:=fun x=>by
  rw [ev_subst x ha.vl h.v.nat,ev_split x v (ev x l) _ ha.vl.nat degP_lt]
 have vr : Vld (if degP a v=1 then subP [] (substP a v l) else substP a v l):=by
  split
  ·exact Vld.sub _ _
  ·exact Vld.subst _ _ _
 refine ev_off h2.v vr (ha.vl.coeff v (degP a v)) (ha.vl.coeff_ne na v) fun x hx=>?_
 obtain ⟨p4,p5,p6⟩:=h3 x hx
 have p1 : ∀ y : Rat,y ^ 1=y:=fun y=>by rw [Rat.pow_succ,Rat.pow_zero]; grind
 obtain h0 | h0 | h0 : degP a v=0 ∨ degP a v=1 ∨ degP a v=2:=by omega
 ·rw [p4 h0,if_neg (by omega),hs,hd,h0]
  show ev x (coeffP a v 0) ^ 1=0 + ev x (coeffP a v 0) * ev x l ^ 0
  rw [p1,Rat.pow_zero]; grind
 ·rw [h0] at hx
  obtain ⟨c0,e0⟩ : ∃ c0,ev x (coeffP a v 0)=-(c0 * ev x (coeffP a v 1)):=⟨-(ev x (coeffP a v 0) / ev x (coeffP a v 1)),by grind⟩
  rw [p5 h0 c0 e0,if_pos h0,ev_sub x Vld.nil.nat (Vld.subst _ _ _),hs,hd,h0,← Lf_pow x c0,Lf_line x (fun i=>c0 ^ i) hv huv h]
  show ev x (coeffP a v 1) ^ 1 * (c0 ^ 1 - c0 ^ 0 * ev x l)=0 - (0 + ev x (coeffP a v 0) * ev x l ^ 0 + ev x (coeffP a v 1) * ev x l ^ 1)
  rw [p1,p1,p1,Rat.pow_zero,Rat.pow_zero,e0]; grind
 ·rw [h0] at hx
  obtain ⟨c1,e1⟩ : ∃ c1,ev x (coeffP a v 1)=c1 * ev x (coeffP a v 2):=⟨ev x (coeffP a v 1) / ev x (coeffP a v 2),by grind⟩
  obtain ⟨c0,e0⟩ : ∃ c0,ev x (coeffP a v 0)=c0 * ev x (coeffP a v 2):=⟨ev x (coeffP a v 0) / ev x (coeffP a v 2),by grind⟩
  rw [p6 h0 c1 c0 e1 e0,if_neg (by omega),hs,hd,h0,hq1,hq2,Lf_line x (fun i=>(gq c1 c0 i).1) hv huv h,Lf_line x (fun i=>(gq c1 c0 i).2) hv huv h]
  show ev x (coeffP a v 2) ^ 1 * nrm c1 c0 ((1 - 0 * c1) - 0 * ev x l) (-(0 * c0) - 1 * ev x l)=0 + ev x (coeffP a v 0) * ev x l ^ 0 + ev x (coeffP a v 1) * ev x l ^ 1 + ev x (coeffP a v 2) * ev x l ^ 2
  rw [p1,p1,Rat.pow_zero,e0,e1,show ev x l ^ 2=ev x l * ev x l by rw [Rat.pow_succ,p1]]; unfold nrm; grind
theorem plane_in (L : List Dr4) {u v : Nat} (h : u=0 ∧ v=1 ∨ u=1 ∧ v=0) : InP u v 15 2 (plane8P L):=by
 have hp:=plane8_pk L
 have hx:=plane8_ex L
 refine ⟨hp.v,hp.b.d,hp.b.b,fun t ht=>?_,fun t ht x hx4 hxu hxv=>?_⟩
 ·obtain ⟨h0,h1,h2,h3⟩:=hx t ht
  rcases h with ⟨rfl,rfl⟩ | ⟨rfl,rfl⟩ <;> simp only [Ex.get] <;> omega
 ·obtain ⟨h0,h1,h2,h3⟩:=hx t ht
  have : x=2 ∨ x=3:=by omega
  rcases this with rfl | rfl <;> simp only [Ex.get] <;> omega
theorem eval_subst (p : List Trm) (h : Vld p) (v : Nat) (c : Rat) : substP p v (constP c)=evalP p v c :=
 ev_inj (Vld.subst _ _ _) (canon_val _) fun x=>by rw [ev_subst x h (Vld.const c).nat,ev_const,ev_eval x h.nat]
theorem line_en (L : List Dr4) {u v : Nat} (h : u=0 ∧ v=1 ∨ u=1 ∧ v=0) : En u 15 2 (substP (plane8P L) v (constP 1)):=by
 have hp:=plane8_pk L
 have hi:=plane_in L h
 have hb:=(eval_bd (e:=2) (d:=1) (b:=1) hp (fun t ht=>(hi.e t ht).2) (c:=1) (Dv.int 1 1) (by decide +kernel) (by omega)).canon
 rw [eval_subst _ hp.v]
 have ex:=canon_ex (l:=evalL (plane8P L) v 1) (P:=fun e=>e.get u ≤ 2 ∧ ∀ x,x < 4 → x ≠ u → e.get x=0) fun t ht=>by
  obtain ⟨s,hs,rfl⟩:=List.mem_map.1 ht
  show (s.1.put v 0).get u ≤ 2 ∧ ∀ x,x < 4 → x ≠ u → (s.1.put v 0).get x=0
  have h4 : u < 4 ∧ v < 4 ∧ v ≠ u:=by omega
  rw [Ex.get_put_ne _ h4.2.1 h4.1 h4.2.2]
  refine ⟨(hi.e s hs).1,fun x hx hxu=>?_⟩
  by_cases hxv : x=v
  ·subst hxv; exact Ex.get_put _ _ _
  ·rw [Ex.get_put_ne _ h4.2.1 hx (Ne.symm hxv)]; exact hi.o s hs x hx hxu hxv
 exact ⟨canon_val _,hb.d,hb.b,fun t ht=>(ex t ht).1,fun t ht=>(ex t ht).2⟩
end Q
