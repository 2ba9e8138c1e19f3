/- Integer polynomials: Gauss's lemma over the integers; a factor's coefficients are bounded by those of the product. No program in sight. Fermat's little theorem and inverses modulo 2^31 - 1. No program in sight. Images of polynomials modulo 2^31 - 1: the images' greatest common divisor has at least the degree of a common divisor. No program in sight. -/
import Derived.Test.YtopclbeomcggiaaGreatC02
import Derived.Test.YtopclbeomcggiaaGreatC09
import Derived.Test.YtopclbeomcggiaaGreatC31
import Derived.Test.YtopclbeomcggiaaGreatC34
set_option linter.unusedVariables false
set_option linter.unusedSimpArgs false
set_option maxHeartbeats 16000000
set_option maxRecDepth 100000
section
namespace Q
def prm (p:Nat):Prop:=1<p/\∀ m,m∣p->m=1\/m=p
theorem prm_ex:∀ n:Nat,1<n->∃ p,prm p/\p∣n:=fun n=>by
 induction n using Nat.strongRecOn with
|_ n ih =>
  intro h;by_cases hp:prm n
  ·exact⟨n,hp,Nat.dvd_refl n⟩
  ·have:∃ m,m∣n/\m≠1/\m≠n:=by
    rcases Classical.em (∃ m,m∣n/\m≠1/\m≠n) with h'|h'
    ·exact h'
    ·exfalso;apply hp;refine⟨h,fun m hm=>?_⟩;rcases Classical.em (m=1) with h1|h1
     ·exact .inl h1
     ·rcases Classical.em (m=n) with h2|h2
      ·exact .inr h2
      ·exact absurd ⟨m,hm,h1,h2⟩ h'
   obtain⟨m,hm,h1,h2⟩:=this;have hle:=Nat.le_of_dvd (by omega) hm;have h0:m≠0:=fun e=>by rw [e] at hm;have:=Nat.eq_zero_of_zero_dvd hm;omega
   obtain⟨p,hp,hd⟩:=ih m (by omega) (by omega);exact⟨p,hp,Nat.dvd_trans hd hm⟩
theorem prm_dvd {p:Nat} (hp:prm p) {a b:Int} (h:(p:Int)∣a*b):(p:Int)∣a\/(p:Int)∣b:=by
 rcases hp.2 _ (Nat.gcd_dvd_left p a.natAbs) with h1|h1
 ·right;have h2:p∣a.natAbs*b.natAbs:=by rw [<- Int.natAbs_mul];exact Int.ofNat_dvd_left.1 h
  exact Int.ofNat_dvd_left.2 (Nat.Coprime.dvd_of_dvd_mul_left h1 h2)
 ·left;have:=Nat.gcd_dvd_right p a.natAbs;rw [h1] at this;exact Int.ofNat_dvd_left.2 this
namespace MP
theorem c_mul_l (r:Rat) (p:MP):c r*p=⟨scaleP p.l r,p.v.scale r⟩:=ext' fun x=>by
 rw [ev_mul,ev_c];have:=Q.ev_scale x p.l r;show r*Q.ev x p.l=Q.ev x (scaleP p.l r);rw [this];grind
theorem am_cmul (r:Rat) (p:MP):(c r*p).am=rabs r*p.am:=by
 rw [c_mul_l];show asum (scaleP p.l r)=rabs r*asum p.l;unfold scaleP;split
 ·rename_i h;rw [h];show (0:Rat)=_;have e:rabs 0=0:=by decide
  rw [e];grind
 ·induction p.l with
 |nil=>simp only [List.map_nil,asum];grind
 |cons t l ih=>simp only [List.map_cons,asum,rabs_mul] at *;grind
theorem cmul_mem {r:Rat} {p:MP} {t:Trm} (h:t∈(c r*p).l):∃ s∈p.l,t=(s.1,s.2*r):=by
 rw [c_mul_l] at h;exact scale_mem h
theorem dv_clear {D:Nat} {p:MP} (h:p.dv D):(c (D:Rat)*p).dv 1:=fun t ht=>by
 obtain⟨s,hs,rfl⟩:=cmul_mem ht;obtain⟨k,hk⟩:=h s hs;exact⟨k,by show s.2*D*((1:Nat):Rat)=k;rw [hk,show ((1:Nat):Rat)=1 from rfl,Rat.mul_one]⟩
theorem nat_ne {D:Nat} (h:0<D):(D:Rat)≠0:=fun h'=>by
 have:(D:Rat)=((0:Nat):Rat):=h';have:=Rat.natCast_inj.1 this;omega
theorem dv_unclear {D:Nat} (h0:0<D) {p:MP} (h:(c (D:Rat)*p).dv 1):p.dv D:=fun t ht=>by
 have e:cf (c (D:Rat)*p).l t.1=D*t.2:=by rw [cf_cmul,cf_mem ht]
 obtain⟨z,hz⟩:=int_of_dv (cf_dv h t.1);exact⟨z,by rw [<- hz,e];grind⟩
def zdv (p:Nat) (P:MP):Prop:=∃ P':MP,P'.dv 1/\P=c (p:Rat)*P'
theorem zdv_add {p:Nat} {a b:MP} (h:zdv p a) (h':zdv p b):zdv p (a+b):=by
 obtain⟨x,hx,rfl⟩:=h;obtain⟨y,hy,rfl⟩:=h';exact⟨x+y,dv_add hx hy,by grind⟩
theorem zdv_sub {p:Nat} {a b:MP} (h:zdv p a) (h':zdv p b):zdv p (a-b):=by
 obtain⟨x,hx,rfl⟩:=h;obtain⟨y,hy,rfl⟩:=h';exact⟨x - y,dv_sub hx hy,by grind⟩
theorem zdv_mul {p:Nat} {a b:MP} (h:zdv p a) (h':b.dv 1):zdv p (a*b):=by
 obtain⟨x,hx,rfl⟩:=h;exact⟨x*b,dv_mul1 hx h',by grind⟩
theorem zdv_mul' {p:Nat} {a b:MP} (h:zdv p b) (h':a.dv 1):zdv p (a*b):=by
 obtain⟨x,hx,rfl⟩:=h;exact⟨a*x,dv_mul1 h' hx,by grind⟩
theorem zdv_zero (p:Nat):zdv p 0:=⟨0,dv_zero 1,by grind⟩
theorem Lf_part (f:Ex->Rat) (b:Trm->Bool) (l:List Trm):Lf f l=Lf f (l.filter b)+Lf f (l.filter fun t=>!b t):=by
 induction l with
|nil=>simp only [List.filter_nil,Lf];grind
|cons t l ih=>cases hb:b t <;> simp only [List.filter_cons,hb,Lf,ih,Bool.not_true,Bool.not_false,if_true,if_false,Bool.false_eq_true] <;> grind
def sel (b:Trm->Bool) (p:MP):MP:=⟨p.l.filter b,p.v.sublist List.filter_sublist⟩
theorem sel_add (b:Trm->Bool) (p:MP):p=sel b p+sel (fun t=>!b t) p:=eqvM fun f=>by rw [lf_add];exact Lf_part f b p.l
theorem sel_dv {D:Nat} {b:Trm->Bool} {p:MP} (h:p.dv D):(sel b p).dv D:=fun t ht=>h t (List.mem_filter.1 ht).1
def mulB (p:Nat) (t:Trm):Bool:=decide (t.2.num % (p:Int)=0)
theorem sel_zdv {p:Nat} (hp:0<p) {P:MP} (h:P.dv 1):zdv p (sel (mulB p) P):=by
 refine⟨c ((p:Rat)⁻¹)*sel (mulB p) P,fun t ht=>?_,?_⟩
 ·obtain⟨s,hs,rfl⟩:=cmul_mem ht;have hs':s∈P.l.filter (mulB p):=hs;obtain⟨h1,h2⟩:=List.mem_filter.1 hs';obtain⟨z,hz⟩:=int_of_dv (h s h1);have h3:s.2.num % (p:Int)=0:=of_decide_eq_true h2;rw [hz] at h3;have h3:z % (p:Int)=0:=h3;obtain⟨k,rfl⟩:=Int.dvd_of_emod_eq_zero h3;refine⟨k,?_⟩;show s.2*(p:Rat)⁻¹*((1:Nat):Rat)=k;rw [hz,Rat.intCast_mul,Rat.intCast_natCast,show ((1:Nat):Rat)=1 from rfl];have:=Rat.mul_inv_cancel _ (nat_ne hp);grind
 ·have e:c (p:Rat)*c ((p:Rat)⁻¹)=1:=by rw [c_mul,Rat.mul_inv_cancel _ (nat_ne hp)];rfl
  grind
theorem head_cf {G H:MP} {s t:Trm} {l r:List Trm} (hG:G.l=s::l) (hH:H.l=t::r):cf (G*H).l (s.1.add t.1)=s.2*t.2:=by
 have h1:cf (G*H).l (s.1.add t.1)=cf (prods G.l H.l) (s.1.add t.1):=(canon_eqv (G.v.nat.prods H.v.nat)).cf _;rw [h1,hG,hH];exact cf_prods_head (by rw [<- hG];exact G.v.1) (by rw [<- hH];exact H.v.1)
theorem zdv_prime {p:Nat} (hp:prm p) {G H:MP} (iG:G.dv 1) (iH:H.dv 1) (h:zdv p (G*H)):zdv p G\/zdv p H:=by
 have hp0:0<p:=by have:=hp.1;omega
 have eG:=sel_add (mulB p) G;have eH:=sel_add (mulB p) H;have zG:=sel_zdv hp0 iG;have zH:=sel_zdv hp0 iH;obtain⟨G2,hG2⟩:∃ g,g=sel (fun t=>!mulB p t) G:=⟨_,rfl⟩;obtain⟨H2,hH2⟩:∃ g,g=sel (fun t=>!mulB p t) H:=⟨_,rfl⟩;have iG2:G2.dv 1:=by rw [hG2];exact sel_dv iG
 have iH2:H2.dv 1:=by rw [hH2];exact sel_dv iH
 rw [<- hG2] at eG;rw [<- hH2] at eH
 cases hGl:G2.l with
|nil=>left;rw [eG,zero_iff.2 hGl];exact zdv_add zG (zdv_zero p)
|cons s l =>
  cases hHl:H2.l with
 |nil=>right;rw [eH,zero_iff.2 hHl];exact zdv_add zH (zdv_zero p)
 |cons t r =>
   exfalso
   have hz:zdv p (G2*H2):=by
    have e:G2*H2=G*H-(sel (mulB p) G*H+G2*sel (mulB p) H):=by grind
    rw [e];exact zdv_sub h (zdv_add (zdv_mul zG iH) (zdv_mul' zH iG2))
   obtain⟨P',iP,eP⟩:=hz;have h1:=head_cf hGl hHl;rw [eP,cf_cmul] at h1;obtain⟨z,hz⟩:=int_of_dv (cf_dv iP (s.1.add t.1));obtain⟨x,hx⟩:=int_of_dv (iG2 s (by rw [hGl];simp));obtain⟨y,hy⟩:=int_of_dv (iH2 t (by rw [hHl];simp));rw [hz,hx,hy,<- Rat.intCast_natCast,<- Rat.intCast_mul,<- Rat.intCast_mul] at h1;have h2:=Rat.intCast_inj.1 h1;have hs0:s∈G2.l:=by rw [hGl];simp
   have ht0:t∈H2.l:=by rw [hHl];simp
   rw [hG2] at hs0;rw [hH2] at ht0;have hs:s∈G.l.filter (fun t=>!mulB p t):=hs0;have ht:t∈H.l.filter (fun t=>!mulB p t):=ht0;have hs':=(List.mem_filter.1 hs).2;have ht':=(List.mem_filter.1 ht).2;simp only [mulB,Bool.not_eq_true',decide_eq_false_iff_not,hx,hy] at hs' ht';rcases prm_dvd hp ⟨z,h2.symm⟩ with h|h
   ·exact hs' (Int.emod_eq_zero_of_dvd h)
   ·exact ht' (Int.emod_eq_zero_of_dvd h)
def pz (G:MP):Prop:=G.dv 1/\∀ p,prm p->¬ zdv p G
theorem one_le_nat {n:Nat} (h:1<=n):(1:Rat)<=(n:Rat):=by
 have e:(1:Rat)=((1:Nat):Rat):=rfl;rw [e];exact Rat.natCast_le_natCast.2 h
theorem rabs_int {z:Int} (h:z≠0):(1:Rat)<=rabs (z:Rat):=by
 unfold rabs;have e:(1:Rat)=((1:Int):Rat):=rfl;split
 ·rename_i h';have e0:(0:Rat)=((0:Int):Rat):=rfl;rw [e0] at h';have:z<0:=Rat.intCast_lt_intCast.1 h';rw [e,<- Rat.intCast_neg];exact Rat.intCast_le_intCast.2 (by omega)
 ·rename_i h';have e0:(0:Rat)=((0:Int):Rat):=rfl;rw [e0] at h';have:¬ z<0:=fun hz=>h' (Rat.intCast_lt_intCast.2 hz);rw [e];exact Rat.intCast_le_intCast.2 (by omega)
theorem head_ex {p:MP} (h:p≠0):∃ t l,p.l=t::l:=by
 cases e:p.l with
|nil=>exact absurd (zero_iff.2 e) h
|cons t l=>exact⟨t,l,rfl⟩
theorem am_ge_one {p:MP} (h:p.dv 1) (h0:p≠0):1<=p.am:=by
 obtain⟨t,l,e⟩:=head_ex h0;have ht:t∈p.l:=by rw [e];simp
 obtain⟨z,hz⟩:=int_of_dv (h t ht);have h1:=asum_mem ht
 have h2:(1:Rat)<=rabs t.2:=by
  rw [hz];refine rabs_int fun e0=>(p.v.2 t ht).1 ?_;rw [hz,e0];rfl
 show 1<=asum p.l;grind
theorem c_ne {r:Rat} (h:r≠0):c r≠0:=unit_ne (c_unit h)
theorem pz_ex:∀ (k:Nat) (P:MP),P≠0->P.dv 1->P.am<=(2:Rat) ^ k->∃ r:Rat,r≠0/\pz (c r*P)
|k,P,h0,h1,h2=>by
  by_cases hz:∃ p,prm p/\zdv p P
  ·obtain⟨p,hp,P',i',e⟩:=hz;have hp0:0<p:=by have:=hp.1;omega
   have h0':P'≠0:=fun e'=>h0 (by rw [e,e'];grind)
   have ha:(p:Rat)*P'.am=P.am:=by
    rw [e,am_cmul,rabs_of_pos (by have:(0:Rat)<=(p:Rat):=Rat.natCast_nonneg;exact this)]
   have hg:=am_ge_one i' h0'
   have hp2:(2:Rat)<=(p:Rat):=by
    have e2:(2:Rat)=((2:Nat):Rat):=rfl;rw [e2];exact Rat.natCast_le_natCast.2 hp.1
   have hm:(2:Rat)*P'.am<=(p:Rat)*P'.am:=Rat.mul_le_mul_of_nonneg_right hp2 (by grind)
   cases k with
  |zero=>exfalso;rw [Rat.pow_zero] at h2;grind
  |succ k =>
    rw [Rat.pow_succ] at h2;obtain⟨r,hr,hpz⟩:=pz_ex k P' h0' i' (by grind);refine⟨r*(p:Rat)⁻¹,rmul_ne hr (fun h=>nat_ne hp0 (by have:=Rat.mul_inv_cancel _ (nat_ne hp0);rw [h] at this;grind)),?_⟩
    have e2:c (r*(p:Rat)⁻¹)*P=c r*P':=by
     rw [e,<- c_mul];have e:c ((p:Rat)⁻¹)*c (p:Rat)=1:=by rw [c_mul,Rat.inv_mul_cancel _ (nat_ne hp0)];rfl
     grind
    rw [e2];exact hpz
  ·refine⟨1,by decide,?_⟩;have e:c 1*P=P:=by rw [c_one];grind
   rw [e];exact⟨h1,fun p hp h=>hz ⟨p,hp,h⟩⟩
theorem dv_ex:∀ l:List Trm,∃ D,0<D/\∀ t∈l,Dv D t.2
|[]=>⟨1,by omega,fun _ h=>by cases h⟩
|t::l=>by
  obtain⟨D,h1,h2⟩:=dv_ex l
  have ht:Dv t.2.den t.2:=⟨t.2.num,by
   have h1:(t.2.den:Rat)≠0:=nat_ne t.2.den_pos;have h2:=Rat.num_divInt_den t.2;rw [Rat.divInt_eq_div,Rat.intCast_natCast] at h2;have h3:(t.2.num:Rat) / (t.2.den:Rat)*(t.2.den:Rat)=t.2.num:=Rat.div_mul_cancel h1
   rwa [h2] at h3⟩
  refine⟨t.2.den*D,Nat.mul_pos t.2.den_pos h1,fun s hs=>?_⟩;rcases List.mem_cons.1 hs with rfl|hs
  ·exact ht.dvd (Nat.dvd_mul_right _ _)
  ·exact (h2 s hs).dvd (Nat.dvd_mul_left _ _)
theorem two_pow_ge (r:Rat):∃ k:Nat,r<=(2:Rat) ^ k:=by
 have hn:∀ n:Nat,(n:Rat)<=(2:Rat) ^ n:=fun n=>by
  induction n with
 |zero=>rw [Rat.pow_zero];decide
 |succ n ih =>
   have h1:(1:Rat)<=(2:Rat) ^ n:=by have:=(pow_ge (T:=2) (by decide) (Nat.zero_le n)).2;rwa [Rat.pow_zero] at this
   rw [Rat.pow_succ,Rat.natCast_add];have e:((1:Nat):Rat)=1:=rfl;rw [e];grind
 refine⟨r.num.natAbs,Rat.le_trans ?_ (hn _)⟩
 have h1:r*(r.den:Rat)=r.num:=by
  have h1:(r.den:Rat)≠0:=nat_ne r.den_pos;have h2:=Rat.num_divInt_den r;rw [Rat.divInt_eq_div,Rat.intCast_natCast] at h2;have h3:(r.num:Rat) / (r.den:Rat)*(r.den:Rat)=r.num:=Rat.div_mul_cancel h1;rwa [h2] at h3
 rcases rlt_or_le r with hr|hr
 ·have:(0:Rat)<=(r.num.natAbs:Rat):=Rat.natCast_nonneg;grind
 ·have h4:(1:Rat)<=(r.den:Rat):=by
   have e:(1:Rat)=((1:Nat):Rat):=rfl;rw [e];exact Rat.natCast_le_natCast.2 r.den_pos
  have h5:r*1<=r*(r.den:Rat):=Rat.mul_le_mul_of_nonneg_left h4 hr;have h6:(r.num:Rat)<=(r.num.natAbs:Rat):=by rw [<- Rat.intCast_natCast];exact Rat.intCast_le_intCast.2 (by omega)
  grind
theorem pz_of {P:MP} (h:P≠0):∃ r:Rat,r≠0/\pz (c r*P):=by
 obtain⟨D,h1,h2⟩:=dv_ex P.l;obtain⟨k,hk⟩:=two_pow_ge (c (D:Rat)*P).am;obtain⟨r,hr,hp⟩:=pz_ex k (c (D:Rat)*P) (mul_ne (c_ne (nat_ne h1)) h) (dv_clear h2) hk;refine⟨r*D,rmul_ne hr (nat_ne h1),?_⟩;rw [<- c_mul];have e:c r*c (D:Rat)*P=c r*(c (D:Rat)*P):=by grind
 rw [e];exact hp
theorem gaussZ {F G H:MP} (iF:F.dv 1) (hG:pz G) (e:F=G*H):H.dv 1:=by
 obtain⟨D,h1,h2⟩:=dv_ex H.l
 have key:∀ D:Nat,0<D->H.dv D->H.dv 1:=fun D=>by
  induction D using Nat.strongRecOn with
 |_ D ih =>
   intro h1 h2;rcases Nat.eq_or_lt_of_le (show 1<=D by omega) with e1|hlt
   ·rw [<- e1] at h2;exact h2
   ·obtain⟨p,hp,D',rfl⟩:=prm_ex D hlt;have hp1:=hp.1;have hD':0<D':=Nat.pos_of_mul_pos_left h1
    have hz:zdv p (G*(c ((p*D':Nat):Rat)*H)):=⟨c (D':Rat)*F,dv_mul1 (dv_c ⟨D',by rw [show ((1:Nat):Rat)=1 from rfl,Rat.mul_one,Rat.intCast_natCast]⟩) iF,by
     rw [e,Rat.natCast_mul,<- c_mul];grind⟩
    rcases zdv_prime hp hG.1 (dv_clear h2) hz with h|h
    ·exact absurd h (hG.2 p hp)
    ·obtain⟨K,iK,eK⟩:=h
     have:c (D':Rat)*H=K:=cancel (c_ne (nat_ne (by omega:0<p))) (by
      rw [<- eK,Rat.natCast_mul,<- c_mul];grind)
     refine ih D' ?_ hD' (dv_unclear hD' (by rw [this];exact iK));have:=Nat.mul_le_mul_right D' hp1;omega
 exact key D h1 h2
def at' (w:Nat) (r:Rat) (p:MP):MP:=⟨evalP p.l w r,Vld.eval _ _ _⟩
theorem ev_at (x:Pt) (w:Nat) (r:Rat) (p:MP):(at' w r p).ev x=p.ev (x.put w r):=Q.ev_eval x p.v.nat w r
theorem at_add (w:Nat) (r:Rat) (p q:MP):at' w r (p+q)=at' w r p+at' w r q:=ext' fun x=>by rw [ev_at,ev_add,ev_add,ev_at,ev_at]
theorem at_mul (w:Nat) (r:Rat) (p q:MP):at' w r (p*q)=at' w r p*at' w r q:=ext' fun x=>by rw [ev_at,ev_mul,ev_mul,ev_at,ev_at]
theorem at_sub (w:Nat) (r:Rat) (p q:MP):at' w r (p-q)=at' w r p-at' w r q:=ext' fun x=>by rw [ev_at,ev_sub,ev_sub,ev_at,ev_at]
theorem at_c (w:Nat) (r s:Rat):at' w r (c s)=c s:=ext' fun x=>by rw [ev_at,ev_c,ev_c]
theorem at_fr {w:Nat} (r:Rat) {p:MP} (h:p.fr w):at' w r p=p:=ext' fun x=>by
 rw [ev_at];have e:=split w p (N:=1) (by have h':p.deg w<=0:=h;omega);have h1:∀ y:Pt,p.ev y=(p.co w 0).ev y:=fun y=>by rw [co_fr0 h]
 show Lf (mon (x.put w r)) p.l=Lf (mon x) p.l;refine Lf_congr fun t ht=>?_;rw [mon_put,fr_get h ht];have e2:t.1.put w 0=t.1:=by rw [<- fr_get h ht,Ex.put_get]
 rw [e2];simp [Rat.pow_zero]
theorem fr_at (w:Nat) (r:Rat) (p:MP):(at' w r p).fr w:=evalP_deg _ _ _
theorem deg_at {w:Nat} (r:Rat) (p:MP) {u d:Nat} (hw:w<4) (hu:u<4) (h:p.deg u<=d):(at' w r p).deg u<=d:=by
 have:∀ t∈(at' w r p).l,t.1.get u<=d:=by
  refine canon_ex (P:=fun e=>e.get u<=d) fun t ht=>?_;obtain⟨s,hs,rfl⟩:=List.mem_map.1 ht;have h1:=degP_le hs u;have h':degP p.l u<=d:=h;by_cases hc:w=u
  ·subst hc;show (s.1.put w 0).get w<=d;rw [Ex.get_put];omega
  ·show (s.1.put w 0).get u<=d;rw [Ex.get_put_ne _ hw hu hc];omega
 rcases (foldl_max (fun t=>t.1.get u) (at' w r p).l (-1)).2.2 with e|⟨t,ht,e⟩
 ·show degP _ u<=_;unfold degP;rw [e];omega
 ·show degP _ u<=_;unfold degP;rw [<- e];exact this t ht
theorem lo_at {n:Nat} (hn:n<4) {p:MP} (h:p.lo (n+1)) (r:Rat):(at' n r p).lo n:=fun w h1 h2=>by
 rcases Nat.eq_or_lt_of_le h1 with e|hlt
 ·subst e;exact fr_at _ _ _
 ·have h3:p.deg w<=(0:Nat):=h w hlt h2;exact deg_at r p hn h2 h3
theorem dv_at {D:Nat} {p:MP} (h:p.dv D) (w:Nat) (i:Int):(at' w (i:Rat) p).dv D:=canon_dv fun t ht=>by
 obtain⟨s,hs,rfl⟩:=List.mem_map.1 ht
 have h1:Dv 1 ((i:Rat) ^ (s.1.get w).toNat):=by
  induction (s.1.get w).toNat with
 |zero=>rw [Rat.pow_zero];exact Dv.int 1 1
 |succ n ih=>rw [Rat.pow_succ];exact ih.mul (Dv.int 1 i)
 have:=(h s hs).mul h1;rw [Nat.mul_one] at this;exact this
theorem am_at {p:MP} {w d i T:Nat} (hd:p.deg w<=d) (hi:i<=T) (hT:1<=T):(at' w ((i:Nat):Rat) p).am<=p.am*(T:Rat) ^ d:=by
 have h1:=canon_asum (evalL p.l w (i:Rat));refine Rat.le_trans h1 ?_
 have h2:∀ t∈p.l,rabs (t.2*(i:Rat) ^ (t.1.get w).toNat)<=rabs t.2*(T:Rat) ^ d:=fun t ht=>by
  rw [rabs_mul]
  refine rmul_le Rat.le_refl ?_ (rabs_nonneg _) (by
   exact (pow_ge (T:=(T:Rat)) (one_le_nat hT) (Nat.le_refl d)).1)
  have hk:(t.1.get w).toNat<=d:=by have:=degP_le ht w;have h':degP p.l w<=d:=hd;omega
  have h3:∀ k:Nat,0<=(i:Rat) ^ k/\(i:Rat) ^ k<=(T:Rat) ^ k:=fun k=>by
   induction k with
  |zero=>rw [Rat.pow_zero,Rat.pow_zero];exact⟨by decide,Rat.le_refl⟩
  |succ k ih =>
    rw [Rat.pow_succ,Rat.pow_succ];have hiT:(i:Rat)<=(T:Rat):=Rat.natCast_le_natCast.2 hi;have hi0:(0:Rat)<=(i:Rat):=Rat.natCast_nonneg;exact⟨Rat.mul_nonneg ih.1 hi0,rmul_le ih.2 hiT ih.1 (Rat.le_trans hi0 hiT)⟩
  rw [rabs_of_pos (h3 _).1];exact Rat.le_trans (h3 _).2 (pow_ge (T:=(T:Rat)) (one_le_nat hT) hk).2
 exact asum_map_mul h2
def lin (w:Nat) (r:Rat):MP:=xk w 1-c r
theorem fr_c (r:Rat) (w:Nat):(c r).fr w:=by
 by_cases h:r=0
 ·rw [h];exact fr_zero w
 ·exact fr_dvd one_ne (c_unit h) (fr_one w)
theorem deg_lin (w:Nat) (r:Rat):(lin w r).deg w=1:=by
 have h1:(lin w r).co w 1=1:=by rw [lin,co_sub,co_xk_self,if_pos rfl,co_frs (fr_c r w) (by omega)];grind
 have h2:=deg_sub_le w (xk w 1) (c r);rw [deg_xk] at h2;have h3:(c r).deg w<=0:=fr_c r w;rcases Int.lt_or_le ((lin w r).deg w) 1 with h|h
 ·exfalso;rw [co_above (by omega)] at h1;exact one_ne h1.symm
 ·have:(lin w r).deg w<=max ((1:Nat):Int) ((c r).deg w):=h2;omega
theorem lin_ne (w:Nat) (r:Rat):lin w r≠0:=fun h=>by have:=deg_lin w r;rw [h,deg_zero] at this;omega
theorem ev_lin (x:Pt) (w:Nat) (r:Rat):(lin w r).ev x=x.get w-r:=by rw [lin,ev_sub,ev_xk,ev_c,Rat.pow_succ,Rat.pow_zero];grind
theorem xk_lin (w:Nat) (r:Rat):∀ k:Nat,lin w r∣xk w k-c (r ^ k)
|0=>⟨0,ext' fun x=>by rw [ev_sub,ev_xk,ev_c,ev_mul,ev_zero,Rat.pow_zero,Rat.pow_zero];grind⟩
|k+1=>by
  obtain⟨q,hq⟩:=xk_lin w r k;refine⟨xk w 1*q+c (r ^ k),ext' fun x=>?_⟩;have:=congrArg (MP.ev x) hq;simp only [ev_sub,ev_mul,ev_add,ev_xk,ev_c,ev_lin,Rat.pow_succ,Rat.pow_zero] at *;grind
theorem lin_at (w:Nat) (r:Rat) (p:MP):lin w r∣p-at' w r p:=by
 obtain⟨N,hN⟩:∃ N,N=(p.deg w).toNat+1:=⟨_,rfl⟩;have e:=split w p (N:=N) (by have:=deg_ge w p;omega)
 have hat:∀ (f:Nat->MP) n,at' w r (msum f n)=msum (fun i=>at' w r (f i)) n:=fun f n=>by
  induction n with
 |zero=>rfl
 |succ n ih=>rw [msum,at_add,ih];rfl
 have hx:∀ k,at' w r (xk w k)=c (r ^ k):=fun k=>ext' fun x=>by
  rw [ev_at,ev_xk,ev_c];have:(x.put w r).get w=r:=by rcases w with _|_|_|w <;> rfl
  rw [this]
 have e2:p-at' w r p=msum (fun n=>p.co w n*(xk w n-c (r ^ n))) N:=by
  have h1:at' w r p=msum (fun n=>p.co w n*c (r ^ n)) N:=by
   have h2:=congrArg (at' w r) e;rw [hat] at h2;rw [h2];exact msum_congr fun i _=>by rw [at_mul,at_fr r (co_fr _ _ _),hx]
  rw [h1];have h3:=sub_eq (msum (fun n=>p.co w n*xk w n) N) (msum (fun n=>p.co w n*c (r ^ n)) N);rw [<- e] at h3;rw [h3,<- msum_neg];have h4:p+msum (fun i=>-(p.co w i*c (r ^ i))) N=msum (fun n=>p.co w n*xk w n) N+msum (fun i=>-(p.co w i*c (r ^ i))) N:=by rw [<- e]
  rw [h4,<- msum_add];exact msum_congr fun i _=>by grind
 rw [e2];exact dvd_msum fun i _=>dvd_mul_of' (xk_lin w r i) _
theorem at_lin (w:Nat) (r s:Rat):at' w s (lin w r)=c (s-r):=ext' fun x=>by
 rw [ev_at,ev_lin,ev_c];have:(x.put w s).get w=s:=by rcases w with _|_|_|w <;> rfl
 rw [this]
theorem am_lin {w i T:Nat} (h:i<=T):(lin w ((i:Nat):Rat)).am<=((T+1:Nat):Rat):=by
 have h1:=am_sub (xk w 1) (c ((i:Nat):Rat));rw [am_c,rabs_of_pos Rat.natCast_nonneg] at h1;have h2:(xk w 1).am=1:=by show rabs 1+0=(1:Rat);rw [rabs_one];decide +kernel
 rw [h2] at h1;have h3:((i:Nat):Rat)<=(T:Rat):=Rat.natCast_le_natCast.2 h;have e:((1:Nat):Rat)=1:=rfl;show (xk w 1-c ((i:Nat):Rat)).am<=_;rw [Rat.natCast_add,e];grind
theorem newton {w T:Nat} {M:Rat}:∀ (k:Nat) (M:Rat) (G:MP),0<=M->G.deg w<=k->∀ L:List Nat,L.length=k+1->L.Nodup->(∀ i∈L,i<=T/\(at' w ((i:Nat):Rat) G).am<=M)->G.am<=((2*T+3:Nat):Rat) ^ k*M
|0,M,G,hM,hd,L,hL,_,h=>by
  obtain⟨i,rfl⟩:=List.length_eq_one_iff.1 hL;have:=(h i (by simp)).2;rw [at_fr _ hd] at this;rw [Rat.pow_zero];grind
|k+1,M,G,hM,hd,L,hL,hn,h=>by
  cases L with
 |nil=>simp at hL
 |cons i L =>
   obtain⟨G1,e⟩:=lin_at w ((i:Nat):Rat) G;have hi:=h i (by simp);have hnd:=List.nodup_cons.1 hn;have eG:G=lin w ((i:Nat):Rat)*G1+at' w ((i:Nat):Rat) G:=by grind
   have hd1:G1.deg w<=k:=by
    by_cases h0:G1=0
    ·rw [h0,deg_zero];omega
    ·have h1:=deg_sub_le w G (at' w ((i:Nat):Rat) G);rw [e,deg_mul (lin_ne _ _) h0,deg_lin] at h1;have h2:(at' w ((i:Nat):Rat) G).deg w<=0:=fr_at _ _ _;omega
   have hv:∀ j∈L,j<=T/\(at' w ((j:Nat):Rat) G1).am<=2*M:=fun j hj=>by
    have hj':=h j (by simp [hj]);refine⟨hj'.1,?_⟩;have h1:=congrArg (at' w ((j:Nat):Rat)) e;rw [at_sub,at_mul,at_lin,at_fr _ (fr_at w _ G)] at h1;have h2:=am_sub (at' w ((j:Nat):Rat) G) (at' w ((i:Nat):Rat) G);rw [h1,am_cmul] at h2
    have hne:(j:Int)-i≠0:=fun hh=>by
     have hji:j=i:=by omega
     exact hnd.1 (by rw [<- hji];exact hj)
    have h3:=rabs_int hne
    have e3:((((j:Int)-i:Int)):Rat)=((j:Nat):Rat)-((i:Nat):Rat):=by
     rw [Rat.intCast_sub,Rat.intCast_natCast,Rat.intCast_natCast]
    rw [e3] at h3;have h4:=am_nonneg (at' w ((j:Nat):Rat) G1);have h5:1*(at' w ((j:Nat):Rat) G1).am<=rabs (((j:Nat):Rat)-((i:Nat):Rat))*(at' w ((j:Nat):Rat) G1).am:=Rat.mul_le_mul_of_nonneg_right h3 h4;have h6:=hi.2;have h7:=hj'.2;grind
   have ih:=newton (w:=w) (T:=T) (M:=M) k (2*M) G1 (by grind) hd1 L (by simpa using hL) hnd.2 hv;obtain⟨P,hP⟩:∃ P,P=((2*T+3:Nat):Rat) ^ k:=⟨_,rfl⟩
   have hP1:1<=P:=by
    have:=(pow_ge (T:=((2*T+3:Nat):Rat)) (one_le_nat (by omega)) (Nat.zero_le k)).2;rw [Rat.pow_zero] at this;rw [hP];exact this
   have h1:=am_add (lin w ((i:Nat):Rat)*G1) (at' w ((i:Nat):Rat) G);rw [<- eG] at h1;have h2:=am_mul (lin w ((i:Nat):Rat)) G1;have h3:=am_lin (w:=w) hi.1;have h4:=am_nonneg G1;have h5:(lin w ((i:Nat):Rat)).am*G1.am<=((T+1:Nat):Rat)*(P*(2*M)):=rmul_le h3 (by rw [hP];exact ih) (am_nonneg _) (Rat.mul_nonneg (by grind) (by grind));have h6:=hi.2;rw [Rat.pow_succ,<- hP]
   have e7:((2*T+3:Nat):Rat)=2*((T+1:Nat):Rat)+1:=by
    have:2*T+3=2*(T+1)+1:=by omega
    rw [this,Rat.natCast_add,Rat.natCast_mul];rfl
   rw [e7];have h8:M<=P*M:=by have:=Rat.mul_le_mul_of_nonneg_right hP1 hM;grind
   grind
theorem roots_le {w:Nat}:∀ (L:List Nat) (F:MP),F≠0->L.Nodup->(∀ i∈L,at' w ((i:Nat):Rat) F=0)->(L.length:Int)<=F.deg w
|[],F,h0,_,_=>by have:=deg_pos h0 w;simpa using this
|i::L,F,h0,hn,h=>by
  have hnd:=List.nodup_cons.1 hn;obtain⟨F1,e⟩:=lin_at w ((i:Nat):Rat) F;rw [h i (by simp)] at e;have e:F=lin w ((i:Nat):Rat)*F1:=by grind
  have h1:F1≠0:=fun h1=>h0 (by rw [e,h1];grind)
  have ih:=roots_le L F1 h1 hnd.2 fun j hj=>by
   have h2:=h j (by simp [hj]);rw [e,at_mul,at_lin] at h2;rcases mul_eq_zero.1 h2 with h3|h3
   ·exfalso;by_cases hji:((j:Nat):Rat)-((i:Nat):Rat)=0
    ·have:((j:Nat):Rat)=((i:Nat):Rat):=by grind
     exact hnd.1 (by rw [<- Rat.natCast_inj.1 this];exact hj)
    ·exact c_ne hji h3
   ·exact h3
  rw [e,deg_mul (lin_ne _ _) h1,deg_lin];simp only [List.length_cons];omega
instance:DecidableEq MP:=fun p q=>decidable_of_iff (p.l=q.l) ⟨MP.eq_of,fun h=>by rw [h]⟩
theorem rle_of_eq {a b:Rat} (h:a=b):a<=b:=by rw [h];exact Rat.le_refl
def facK (d:Nat->Nat):Nat->Nat
|0=>1
|n+1=>(4*d n+3) ^ d n*(2*d n+1) ^ d n*facK d n
theorem filter_two {α:Type} (p:α->Bool) (l:List α):(l.filter p).length+(l.filter fun x=>!p x).length=l.length:=by
 induction l with
|nil=>rfl
|cons x l ih=>cases h:p x <;> simp [List.filter_cons,h] <;> omega
theorem fac (d:Nat->Nat):∀ (n:Nat),n<=4->∀ F G H:MP,F=G*H->F≠0->G.dv 1->H.dv 1->F.lo n->(∀ w,w<n->F.deg w<=d w)->G.am<=(facK d n:Rat)*F.am
|0,_,F,G,H,e,h0,iG,iH,lF,_=>by
  have lG:=lo_dvd h0 (by rw [e];exact dvd_mul_right _ _) lF;have lH:=lo_dvd h0 (by rw [e];exact dvd_mul_left _ _) lF;obtain⟨g,rfl⟩:=const_of lG;obtain⟨h,rfl⟩:=const_of lH;have hh:c h≠0:=fun h'=>h0 (by rw [e,h'];grind);have h1:=am_ge_one iH hh;rw [e,am_cmul,am_c,show ((facK d 0:Nat):Rat)=1 from rfl];have:=Rat.mul_le_mul_of_nonneg_left h1 (rabs_nonneg g);grind
|n+1,hn,F,G,H,e,h0,iG,iH,lF,hd=>by
  obtain⟨L,hL⟩:∃ L:List Nat,L=(List.range (2*d n+1)).filter (fun i=>decide (at' n ((i:Nat):Rat) F≠0)):=⟨_,rfl⟩
  have hz:=roots_le (w:=n) ((List.range (2*d n+1)).filter (fun i=>!decide (at' n ((i:Nat):Rat) F≠0))) F h0 (List.nodup_range.sublist List.filter_sublist) fun i hi=>by
   have:=(List.mem_filter.1 hi).2;simpa using this
  have hlen:=filter_two (fun i:Nat=>decide (at' n ((i:Nat):Rat) F≠0)) (List.range (2*d n+1));rw [List.length_range,<- hL] at hlen;have hdn:=hd n (by omega);have hLn:L.Nodup:=by rw [hL];exact List.nodup_range.sublist List.filter_sublist
  have hT:(1:Nat)<=2*d n+1:=by omega
  have hG0:G≠0:=fun h=>h0 (by rw [e,h];grind);have hGd:G.deg n<=d n:=Int.le_trans (dvd_deg h0 (by rw [e];exact dvd_mul_right _ _) n) hdn
  have hval:∀ i∈L,i<=2*d n/\(at' n ((i:Nat):Rat) G).am<=(facK d n:Rat)*(F.am*((2*d n+1:Nat):Rat) ^ d n):=fun i hi=>by
   rw [hL] at hi;obtain⟨h1,h2⟩:=List.mem_filter.1 hi;have h1:=List.mem_range.1 h1;have h2:at' n ((i:Nat):Rat) F≠0:=of_decide_eq_true h2;refine⟨by omega,?_⟩;have h3:=fac d n (by omega) _ _ _ (by rw [<- at_mul,<- e]:at' n ((i:Nat):Rat) F=at' n ((i:Nat):Rat) G*at' n ((i:Nat):Rat) H) h2 (by rw [<- Rat.intCast_natCast];exact dv_at iG n _) (by rw [<- Rat.intCast_natCast];exact dv_at iH n _) (lo_at (by omega) lF _) fun w hw=>deg_at _ F (by omega) (by omega) (hd w (by omega));exact Rat.le_trans h3 (Rat.mul_le_mul_of_nonneg_left (am_at hdn (by omega) hT) Rat.natCast_nonneg)
  have hM:0<=(facK d n:Rat)*(F.am*((2*d n+1:Nat):Rat) ^ d n):=Rat.mul_nonneg Rat.natCast_nonneg (Rat.mul_nonneg (am_nonneg F) (pow_ge (T:=((2*d n+1:Nat):Rat)) (one_le_nat hT) (Nat.le_refl _)).1);have:=newton (w:=n) (T:=2*d n) (M:=0) (d n) _ G hM hGd (L.take (d n+1)) (by rw [List.length_take];omega) (hLn.sublist (List.take_sublist _ _)) fun i hi=>hval i (List.mem_of_mem_take hi);refine Rat.le_trans this ?_;rw [facK,Rat.natCast_mul,Rat.natCast_mul,Rat.natCast_pow,Rat.natCast_pow];have e4:2*(2*d n)+3=4*d n+3:=by omega
  rw [e4];refine rle_of_eq ?_;grind
end MP
end Q
end
section
namespace Q
def nsum (f:Nat->Nat):Nat->Nat
|0=>0
|n+1=>nsum f n+f n
theorem nsum_congr {f g:Nat->Nat}:∀ {n:Nat},(∀ i,i<n->f i=g i)->nsum f n=nsum g n
|0,_=>rfl
|n+1,h=>by rw [nsum,nsum,nsum_congr fun i hi=>h i (by omega),h n (by omega)]
theorem nsum_add (f g:Nat->Nat):∀ n,nsum (fun i=>f i+g i) n=nsum f n+nsum g n
|0=>rfl
|n+1=>by rw [nsum,nsum_add f g n,nsum,nsum];omega
theorem nsum_mul (c:Nat) (f:Nat->Nat):∀ n,nsum (fun i=>c*f i) n=c*nsum f n
|0=>rfl
|n+1=>by rw [nsum,nsum_mul c f n,nsum,Nat.mul_add]
theorem nsum_succ (f:Nat->Nat):∀ n,nsum f (n+1)=f 0+nsum (fun i=>f (i+1)) n
|0=>by simp [nsum]
|n+1=>by rw [nsum,nsum_succ f n,nsum];omega
theorem nsum_dvd {p:Nat} {f:Nat->Nat}:∀ {n:Nat},(∀ i,i<n->p∣f i)->p∣nsum f n
|0,_=>Nat.dvd_zero p
|n+1,h=>Nat.dvd_add (nsum_dvd fun i hi=>h i (by omega)) (h n (by omega))
def ch:Nat->Nat->Nat
|_,0=>1
|0,_+1=>0
|n+1,k+1=>ch n k+ch n (k+1)
theorem ch_zero (n:Nat):ch n 0=1:=by cases n <;> rfl
theorem ch_out:∀ {n k:Nat},n<k->ch n k=0
|_,0,h=>by omega
|0,_+1,_=>rfl
|n+1,k+1,h=>by rw [ch,ch_out (show n<k by omega),ch_out (show n<k+1 by omega)]
theorem ch_self:∀ n,ch n n=1
|0=>rfl
|n+1=>by rw [ch,ch_self n,ch_out (Nat.lt_succ_self n)]
theorem ch_abs:∀ n k,(k+1)*ch (n+1) (k+1)=(n+1)*ch n k
|0,0=>rfl
|0,k+1=>by
  have e:ch 1 (k+2)=0:=ch_out (by omega);rw [e];rfl
|n+1,0=>by
  have h:=ch_abs n 0;have e:ch (n+2) 1=ch (n+1) 0+ch (n+1) 1:=rfl;rw [ch_zero] at h;rw [show n+1+1=n+2 from rfl,e,ch_zero];rw [show 0+1=1 from rfl] at h;omega
|n+1,k+1=>by
  have h1:=ch_abs n k;have h2:=ch_abs n (k+1);have e:ch (n+2) (k+2)=ch (n+1) (k+1)+ch (n+1) (k+2):=rfl;have e2:ch (n+1) (k+1)=ch n k+ch n (k+1):=rfl;rw [e];have h3:(k+1+1)*(ch (n+1) (k+1)+ch (n+1) (k+2))=(k+1)*ch (n+1) (k+1)+ch (n+1) (k+1)+(k+1+1)*ch (n+1) (k+2):=by grind
  rw [h3,h1,h2,e2];grind
theorem binom (x:Nat):∀ n,(x+1) ^ n=nsum (fun k=>ch n k*x ^ k) (n+1)
|0=>by simp [nsum,ch]
|n+1=>by
  rw [Nat.pow_succ,binom x n,nsum_succ (fun k=>ch (n+1) k*x ^ k)]
  have h1:nsum (fun i=>ch (n+1) (i+1)*x ^ (i+1)) (n+1)=x*nsum (fun k=>ch n k*x ^ k) (n+1)+nsum (fun i=>ch n (i+1)*x ^ (i+1)) (n+1):=by
   rw [<- nsum_mul,<- nsum_add];refine nsum_congr fun i _=>?_;show (ch n i+ch n (i+1))*x ^ (i+1)=_;rw [Nat.pow_succ];grind
  rw [h1]
  have h2:nsum (fun i=>ch n (i+1)*x ^ (i+1)) (n+1)=nsum (fun i=>ch n (i+1)*x ^ (i+1)) n:=by
   rw [nsum,ch_out (Nat.lt_succ_self n)];omega
  have h3:=nsum_succ (fun k=>ch n k*x ^ k) n;rw [h2,ch_zero,Nat.pow_zero];rw [ch_zero,Nat.pow_zero] at h3;have h4:nsum (fun k=>ch n k*x ^ k) (n+1)*(x+1)=x*nsum (fun k=>ch n k*x ^ k) (n+1)+nsum (fun k=>ch n k*x ^ k) (n+1):=by grind
  rw [h4,h3];omega
theorem prm_dvdN {p:Nat} (hp:prm p) {a b:Nat} (h:p∣a*b):p∣a\/p∣b:=by
 have:=prm_dvd hp (a:=a) (b:=b) (by rw [<- Int.natCast_mul];exact Int.ofNat_dvd.2 h);exact this.imp Int.ofNat_dvd.1 Int.ofNat_dvd.1
theorem ch_prime {p:Nat} (hp:prm p) {k:Nat} (h0:0<k) (hk:k<p):p∣ch p k:=by
 obtain⟨j,rfl⟩:∃ j,k=j+1:=⟨k - 1,by omega⟩;obtain⟨n,rfl⟩:∃ n,p=n+1:=⟨p - 1,by omega⟩;rcases prm_dvdN hp (a:=j+1) (b:=ch (n+1) (j+1)) ⟨ch n j,ch_abs n j⟩ with h|h
 ·have:=Nat.le_of_dvd h0 h;omega
 ·exact h
theorem frob {p:Nat} (hp:prm p) (x:Nat):(x+1) ^ p % p=(x ^ p+1) % p:=by
 have h1:=hp.1;obtain⟨n,rfl⟩:∃ n,p=n+1:=⟨p - 1,by omega⟩;rw [binom x (n+1),nsum,nsum_succ,ch_zero,ch_self,Nat.pow_zero];obtain⟨k,hk⟩:(n+1)∣nsum (fun i=>ch (n+1) (i+1)*x ^ (i+1)) n:=nsum_dvd fun i hi=>Nat.dvd_mul_right_of_dvd (ch_prime hp (by omega) (by omega)) _;rw [hk];have e:1*1+(n+1)*k+1*x ^ (n+1)=(x ^ (n+1)+1)+(n+1)*k:=by omega
 rw [e,Nat.add_mul_mod_self_left]
theorem fermat0 {p:Nat} (hp:prm p):∀ x:Nat,x ^ p % p=x % p
|0=>by rw [Nat.zero_pow (by have:=hp.1;omega)]
|x+1=>by rw [frob hp,Nat.add_mod,fermat0 hp x,<- Nat.add_mod]
theorem fermat {p:Nat} (hp:prm p) {x:Nat} (h:¬ p∣x):x ^ (p-2)*x % p=1:=by
 have h1:=hp.1;have h2:=fermat0 hp x;obtain⟨n,rfl⟩:∃ n,p=n+2:=⟨p - 2,by omega⟩;rw [Nat.add_sub_cancel];have e:x ^ (n+2)=x*(x ^ n*x):=by rw [Nat.pow_succ,Nat.pow_succ];grind
 rw [e] at h2
 have h3:((n+2:Nat):Int)∣(x:Int)*((x ^ n*x:Nat)-1:Int):=by
  have h4:=Int.emod_emod_of_dvd
  have:((x*(x ^ n*x):Nat):Int) % ((n+2:Nat):Int)=(x:Int) % ((n+2:Nat):Int):=by
   rw [<- Int.natCast_emod,<- Int.natCast_emod,h2]
  have h5:=Int.dvd_of_emod_eq_zero (Int.emod_eq_emod_iff_emod_sub_eq_zero.1 this)
  have e2:(x:Int)*((x ^ n*x:Nat)-1:Int)=((x*(x ^ n*x):Nat):Int)-x:=by
   rw [Int.natCast_mul x];grind
  rw [e2];exact h5
 rcases prm_dvd hp h3 with h4|h4
 ·exact absurd (Int.ofNat_dvd.1 h4) h
 ·have h5:=Int.emod_eq_zero_of_dvd h4;have h6:=Int.emod_eq_emod_iff_emod_sub_eq_zero.2 h5
  have h7:((x ^ n*x % (n+2):Nat):Int)=1:=by
   rw [Int.natCast_emod,h6];exact Int.emod_eq_of_lt (by omega) (by omega)
  omega
def chk (p n:Nat):Nat->Bool
|0=>true
|f+1=>match p % (n-f) with
 |0=>false
 |_+1=>chk p n f
theorem chk_ok {p n:Nat}:∀ {f:Nat},chk p n f=true->∀ k,n-f<k->k<=n->¬ k∣p
|0,_=>fun k h1 h2=>by omega
|f+1,h=>fun k h1 h2 hd=>by
  rw [chk] at h;split at h
  ·cases h
  ·rename_i hm;rcases Nat.eq_or_lt_of_le (show n - f<=k by omega) with e|hlt
   ·rw [e] at hm;rw [Nat.mod_eq_zero_of_dvd hd] at hm;cases hm
   ·exact chk_ok h k hlt h2 hd
theorem pr_chk:chk 2147483647 46340 46339=true:=by decide +kernel
theorem prm_pr:prm pr:=by
 refine⟨by decide,fun m hm=>?_⟩;rw [pr_eq] at *;obtain⟨k,hk⟩:=hm;have h0:∀ j,1<j->j<=46340->¬ j∣2147483647:=fun j h1 h2=>chk_ok pr_chk j (by omega) h2;rcases Nat.lt_or_ge m 2 with h|h
 ·left;rcases Nat.eq_zero_or_pos m with e|h'
  ·rw [e,Nat.zero_mul] at hk;cases hk
  ·omega
 ·rcases Nat.lt_or_ge m 46341 with h2|h2
  ·exact absurd ⟨k,hk⟩ (h0 m (by omega) (by omega))
  ·rcases Nat.lt_or_ge k 46341 with h3|h3
   ·rcases Nat.lt_or_ge k 2 with h4|h4
    ·right;rcases Nat.eq_zero_or_pos k with e|h'
     ·rw [e,Nat.mul_zero] at hk;cases hk
     ·obtain rfl:k=1:=by omega
      omega
    ·exact absurd ⟨m,by rw [hk];exact Nat.mul_comm _ _⟩ (h0 k (by omega) (by omega))
   ·have:=Nat.mul_le_mul h2 h3;omega
theorem powL_eq:∀ (f out a n:Nat),n<2 ^ f->out<pr->powL f out a n=out*a ^ n % pr
|0,out,a,n,h,ho=>by
  obtain rfl:n=0:=by simpa using h
  rw [powL,Nat.pow_zero,Nat.mul_one,Nat.mod_eq_of_lt ho]
|f+1,out,a,n,h,ho=>by
  rw [powL];split
  ·rename_i h0;rw [h0,Nat.pow_zero,Nat.mul_one,Nat.mod_eq_of_lt ho]
  ·have hlt:(if n % 2=1 then out*a % pr else out)<pr:=by
    split
    ·exact Nat.mod_lt _ (by decide)
    ·exact ho
   rw [powL_eq f _ _ _ (by rw [Nat.pow_succ] at h;omega) hlt]
   have h1:(a*a % pr) ^ (n / 2) % pr=a ^ (2*(n / 2)) % pr:=by
    rw [<- Nat.pow_mod,Nat.pow_mul,Nat.pow_two]
   have h2:=Nat.div_add_mod n 2;split
   ·rename_i ho;rw [Nat.mul_mod,h1,<- Nat.mul_mod,Nat.mod_mul_mod];have e:n=2*(n / 2)+1:=by omega
    conv=>rhs;rw [e,Nat.pow_succ]
    congr 1;grind
   ·rw [Nat.mul_mod,h1,<- Nat.mul_mod];have e:n=2*(n / 2):=by omega
    conv=>rhs;rw [e]
theorem powm_eq (a:Nat) {n:Nat} (h:n<18446744073709551616):powm a n=a ^ n % pr:=by
 rw [powm,powL_eq 64 1 a n (by simpa using h) (by decide),Nat.one_mul]
theorem inv_pr {x:Nat} (h0:0<x) (h:x<pr):powm x (pr-2)*x % pr=1:=by
 rw [powm_eq x (by decide),Nat.mod_mul_mod];exact fermat prm_pr fun hd=>by have:=Nat.le_of_dvd h0 hd;omega
end Q
end
section
namespace Q
open MP
def subs (v t:Nat):Nat->MP->MP
|0,p=>p
|w+1,p=>if w=v then subs v t w p else at' w ((t+w:Nat):Rat) (subs v t w p)
theorem subs_mul (v t:Nat):∀ (w:Nat) (p q:MP),subs v t w (p*q)=subs v t w p*subs v t w q
|0,_,_=>rfl
|w+1,p,q=>by
  simp only [subs];split
  ·exact subs_mul v t w p q
  ·rw [subs_mul v t w p q,at_mul]
theorem subs_dv (v t:Nat) {D:Nat}:∀ (w:Nat) {p:MP},p.dv D->(subs v t w p).dv D
|0,_,h=>h
|w+1,p,h=>by
  simp only [subs];split
  ·exact subs_dv v t w h
  ·rw [<- Rat.intCast_natCast];exact dv_at (subs_dv v t w h) w _
theorem subs_deg (v t:Nat) (hv:v<4):∀ (w:Nat),w<=4->∀ {p:MP} {u d:Nat},u<4->p.deg u<=d->(subs v t w p).deg u<=d
|0,_,_,_,_,_,h=>h
|w+1,hw,p,u,d,hu,h=>by
  simp only [subs];split
  ·exact subs_deg v t hv w (by omega) hu h
  ·exact deg_at _ _ (by omega) hu (subs_deg v t hv w (by omega) hu h)
def wtN (v t:Nat) (e:Ex):Nat->Nat
|0=>1
|w+1=>if w=v then wtN v t e w else wtN v t e w*(t+w) ^ (e.get w).toNat
def clr (v:Nat) (e:Ex):Nat->Ex
|0=>e
|w+1=>if w=v then clr v e w else (clr v e w).put w 0
theorem clr_get (v:Nat) (hv:v<4) (e:Ex):∀ w,w<=4->∀ u,u<4->(clr v e w).get u=if u<w/\u≠v then 0 else e.get u
|0,_,u,_=>by simp [clr]
|w+1,hw,u,hu=>by
  have ih:=clr_get v hv e w (by omega) u hu;simp only [clr];split
  ·rename_i h;rw [ih];by_cases h1:u<w/\u≠v
   ·rw [if_pos h1,if_pos ⟨by omega,h1.2⟩]
   ·rw [if_neg h1,if_neg (by omega)]
  ·rename_i h;by_cases h1:w=u
   ·subst h1;rw [Ex.get_put,if_pos ⟨by omega,h⟩]
   ·rw [Ex.get_put_ne _ (by omega) hu h1,ih];by_cases h2:u<w/\u≠v
    ·rw [if_pos h2,if_pos ⟨by omega,h2.2⟩]
    ·rw [if_neg h2,if_neg (by omega)]
theorem Lf_at (f:Ex->Rat) (w:Nat) (r:Rat) (p:MP):Lf f (at' w r p).l=Lf (fun e=>r ^ (e.get w).toNat * f (e.put w 0)) p.l:=by
 have h:NatL (evalL p.l w r):=NatL.evalL p.v.nat w r;show Lf f (canon (evalL p.l w r))=_;rw [canon_eqv h f];exact Lf_map _ _ _ _ fun t _=>by show t.2*r ^ _*f (t.1.put w 0)=_;grind
theorem Lf_subs (v t:Nat) (hv:v<4) (p:MP):∀ (w:Nat),w<=4->∀ f:Ex->Rat,Lf f (subs v t w p).l=Lf (fun e=>(wtN v t e w:Rat)*f (clr v e w)) p.l
|0,_,f=>Lf_congr fun s _=>by
  show f s.1=((1:Nat):Rat)*f s.1;have e:((1:Nat):Rat)=1:=rfl;rw [e];grind
|w+1,hw,f=>by
  have ih:=Lf_subs v t hv p w (by omega);by_cases h:w=v
  ·simp only [subs,wtN,clr,if_pos h];exact ih f
  ·simp only [subs,wtN,clr,if_neg h];rw [Lf_at,ih];refine Lf_congr fun s _=>?_;have e:(clr v s.1 w).get w=s.1.get w:=by rw [clr_get v hv s.1 w (by omega) w (by omega),if_neg (by omega)]
   rw [e,Rat.natCast_mul,Rat.natCast_pow];grind
theorem cf_subs (v t:Nat) (hv:v<4) (p:MP) (i:Nat):cf (subs v t 4 p).l (e0.put v i)=Lf (fun e=>if e.get v=i then (wtN v t e 4:Rat) else 0) p.l:=by
 show Lf _ _=_;rw [Lf_subs v t hv p 4 (Nat.le_refl _)];refine Lf_congr fun s _=>?_
 have e:(clr v s.1 4=e0.put v i)↔s.1.get v=(i:Int):=by
  constructor
  ·intro h;have:=congrArg (Ex.get · v) h;simp only [clr_get v hv s.1 4 (Nat.le_refl _) v hv,Ex.get_put] at this;rw [if_neg (by omega)] at this;exact this
  ·intro h;refine Ex.ext4 fun u hu=>?_;rw [clr_get v hv s.1 4 (Nat.le_refl _) u hu];by_cases hc:v=u
   ·subst hc;rw [if_neg (by omega),Ex.get_put,h]
   ·rw [if_pos ⟨hu,Ne.symm hc⟩,Ex.get_put_ne _ hv hu hc,e0_get]
 by_cases hc:s.1.get v=(i:Int)
 ·rw [if_pos hc,if_pos (e.2 hc)];grind
 ·rw [if_neg hc,if_neg fun h=>hc (e.1 h)];grind
def Cg (a b:Int):Prop:=∃ k:Int,a=b+2147483647*k
theorem Cg.refl (a:Int):Cg a a:=⟨0,by omega⟩
theorem Cg.symm {a b:Int} (h:Cg a b):Cg b a:=by obtain⟨k,h⟩:=h;exact⟨-k,by omega⟩
theorem Cg.trans {a b c:Int} (h:Cg a b) (h':Cg b c):Cg a c:=by obtain⟨k,h⟩:=h;obtain⟨l,h'⟩:=h';exact⟨k+l,by omega⟩
theorem Cg.add {a b c d:Int} (h:Cg a b) (h':Cg c d):Cg (a+c) (b+d):=by obtain⟨k,h⟩:=h;obtain⟨l,h'⟩:=h';exact⟨k+l,by omega⟩
theorem Cg.mul {a b c d:Int} (h:Cg a b) (h':Cg c d):Cg (a*c) (b*d):=by
 obtain⟨k,rfl⟩:=h;obtain⟨l,rfl⟩:=h';exact⟨b*l+k*d+2147483647*k*l,by grind⟩
theorem Cg.mod (a:Nat):Cg ((a % pr:Nat):Int) a:=⟨-((a / pr:Nat):Int),by have:=Nat.div_add_mod a pr;rw [pr_eq] at *;omega⟩
theorem Cg.zero {a:Int} (h:Cg a 0):(2147483647:Int)∣a:=by obtain⟨k,h⟩:=h;exact⟨k,by omega⟩
theorem Cg.cancel {a b d:Int} (hd:¬ (2147483647:Int)∣d) (h:Cg (a*d) (b*d)):Cg a b:=by
 obtain⟨k,h⟩:=h;have h2:((pr:Nat):Int)∣(a - b)*d:=⟨k,by rw [pr_eq];grind⟩;rcases prm_dvd prm_pr h2 with h3|h3
 ·obtain⟨l,h3⟩:=h3;exact⟨l,by rw [pr_eq] at h3;omega⟩
 ·rw [pr_eq] at h3;exact absurd h3 hd
theorem resid_cg (z:Int):Cg (resid z) z:=by
 unfold resid;split
 ·exact⟨(z.natAbs / 2147483647:Nat)+1,by have:=Nat.div_add_mod z.natAbs 2147483647;omega⟩
 ·rename_i h;by_cases hz:z<0
  ·exact⟨(z.natAbs / 2147483647:Nat),by have:=Nat.div_add_mod z.natAbs 2147483647;omega⟩
  ·exact⟨-((z.natAbs / 2147483647:Nat):Int),by have:=Nat.div_add_mod z.natAbs 2147483647;omega⟩
theorem powm_cg (a:Nat) {n:Nat} (h:n<18446744073709551616):Cg (powm a n) ((a ^ n:Nat):Int):=by rw [powm_eq a h];exact Cg.mod _
theorem imgX_cg {m:Trm} {v t:Nat} (hn:m.1.nat=true) (he:∀ w,m.1.get w<18446744073709551616):∀ w:Nat,Cg (imgX m v t w) ((resid m.2.num*powm (resid m.2.den) (pr-2):Nat)*(wtN v t m.1 w:Nat):Int)
|0=>by
  rw [imgX,wtN];have:=Cg.mod (resid m.2.num*powm (resid m.2.den) (pr-2));have e:∀ x:Int,x*((1:Nat):Int)=x:=fun x=>by omega
  rw [e];exact this
|w+1=>by
  rw [imgX,wtN];have ih:=imgX_cg (v:=v) (t:=t) hn he w;split
  ·exact ih
  ·have h2:=powm_cg (t+w) (n:=(m.1.get w).toNat) (by have:=he w;omega);have h1:=(Cg.mod (imgX m v t w*powm (t+w) (m.1.get w).toNat)).trans (by rw [Int.natCast_mul];exact ih.mul h2);rw [Int.natCast_mul (wtN v t m.1 w),<- Int.mul_assoc];exact h1
theorem imgT_cg {m:Trm} {v t:Nat} (hn:m.1.nat=true) (he:∀ w,m.1.get w<18446744073709551616) (hd:resid m.2.den≠0):Cg (imgT m v t*m.2.den) (m.2.num*(wtN v t m.1 4:Nat)):=by
 have h1:=imgX_cg (v:=v) (t:=t) hn he 4;have h2:=resid_cg m.2.num;have h3:=resid_cg (m.2.den:Int);have hlt:resid (m.2.den:Int)<pr:=resid_lt _;have h4:=inv_pr (x:=resid (m.2.den:Int)) (by omega) hlt;have h5:=Cg.mod (powm (resid m.2.den) (pr-2)*resid m.2.den);rw [h4] at h5
 have h6:Cg ((powm (resid m.2.den) (pr-2):Nat)*(m.2.den:Int)) 1:=by
  have:=(Cg.refl ((powm (resid m.2.den) (pr-2):Nat):Int)).mul h3;refine (this.symm.trans ?_);rw [<- Int.natCast_mul];exact h5.symm
 have h7:=h1.mul (Cg.refl (m.2.den:Int));refine h7.trans ?_;have h8:=(h2.mul h6).mul (Cg.refl (wtN v t m.1 4:Int));rw [Int.mul_one] at h8;rw [Int.natCast_mul];have e:(resid m.2.num:Int)*(powm (resid m.2.den) (pr-2):Nat)*(wtN v t m.1 4:Nat)*m.2.den=(resid m.2.num:Int)*((powm (resid m.2.den) (pr-2):Nat)*(m.2.den:Int))*(wtN v t m.1 4:Nat):=by grind
 rw [e];exact h8
def cS (N v t i:Nat):List Trm->Int
|[]=>0
|m::l=>(if m.1.get v=(i:Int) then (m.2*(N:Rat)).num*(wtN v t m.1 4:Nat) else 0)+cS N v t i l
theorem cS_eq {N v t i:Nat}:∀ {l:List Trm},(∀ m∈l,Dv N m.2)->(N:Rat)*Lf (fun e=>if e.get v=i then (wtN v t e 4:Rat) else 0) l=(cS N v t i l:Rat)
|[],_=>by show (N:Rat)*0=((0:Int):Rat);rw [Rat.mul_zero];rfl
|m::l,h=>by
  have ih:=cS_eq (i:=i) (v:=v) (t:=t) (l:=l) fun s hs=>h s (by simp [hs]);obtain⟨k,hk⟩:=h m (by simp);rw [Lf_cons,cS,Rat.intCast_add,<- ih,hk];split
  ·rw [Rat.intCast_mul,Rat.intCast_natCast];have:((k:Rat)).num=k:=rfl;rw [this,<- hk];grind
  ·rw [Rat.intCast_zero];grind
theorem imgGo_cg {N v t:Nat} (hv:v<4):∀ {l:List Trm} {out x:List Nat},imgGo v t l out=some x->NatL l->(∀ m∈l,∀ w,m.1.get w<18446744073709551616)->(∀ m∈l,Dv N m.2)->(∀ m∈l,(m.1.get v).toNat<out.length) ->
  x.length=out.length/\∀ i,i<out.length->Cg ((N:Int)*x.getD i 0) ((N:Int)*out.getD i 0+cS N v t i l)
|[],out,x,h,_,_,_,_=>by
  simp only [imgGo,Option.some.injEq] at h;subst h;exact⟨rfl,fun i _=>by rw [cS,Int.add_zero];exact Cg.refl _⟩
|m::l,out,x,h,hn,he,hd,hk=>by
  rw [imgGo] at h;split at h
  ·cases h
  ·rename_i hres;have hm:=hn m (by simp);obtain⟨h1,h2⟩:=imgGo_cg hv h (fun s hs=>hn s (by simp [hs])) (fun s hs=>he s (by simp [hs])) (fun s hs=>hd s (by simp [hs])) (fun s hs=>by rw [List.length_set];exact hk s (by simp [hs]));rw [List.length_set] at h1 h2;refine⟨h1,fun i hi=>(h2 i hi).trans ?_⟩;rw [cS,<- Int.add_assoc];refine Cg.add ?_ (Cg.refl _);have hk0:=hk m (by simp);have hg0:=Ex.nat_get hm v;by_cases hc:m.1.get v=(i:Int)
   ·have e:(m.1.get v).toNat=i:=by omega
    rw [if_pos hc,e,List.getD_eq_getElem?_getD,List.getElem?_set_self (by omega),Option.getD_some];have h3:=Cg.mod (out.getD i 0+imgT m v t);rw [Int.natCast_add] at h3;have h4:=(Cg.refl (N:Int)).mul h3;refine h4.trans ?_;rw [Int.mul_add];refine (Cg.refl _).add ?_;have h5:=imgT_cg (v:=v) (t:=t) hm (he m (by simp)) hres;obtain⟨z,hz⟩:=hd m (by simp);rw [hz];show Cg _ (z*_)
    have hden:¬ (2147483647:Int)∣m.2.den:=fun hdv=>hres (by
     have:=resid_cg (m.2.den:Int);have h6:=resid_lt (m.2.den:Int);obtain⟨a,ha⟩:=hdv;obtain⟨b,hb⟩:=this
     omega)
    refine Cg.cancel hden ?_
    have h7:z*m.2.den=N*m.2.num:=by
     have h8:m.2*(m.2.den:Rat)=m.2.num:=by
      have h1:(m.2.den:Rat)≠0:=nat_ne m.2.den_pos;have h2:=Rat.num_divInt_den m.2;rw [Rat.divInt_eq_div,Rat.intCast_natCast] at h2;have h3:(m.2.num:Rat) / (m.2.den:Rat)*(m.2.den:Rat)=m.2.num:=Rat.div_mul_cancel h1;rwa [h2] at h3
     have h9:((z*m.2.den:Int):Rat)=((N*m.2.num:Int):Rat):=by
      rw [Rat.intCast_mul,Rat.intCast_mul,<- hz,<- h8,Rat.intCast_natCast,Rat.intCast_natCast];grind
     exact Rat.intCast_inj.1 h9
    have h10:=(Cg.refl (N:Int)).mul h5;have e1:(N:Int)*imgT m v t*m.2.den=N*(imgT m v t*m.2.den):=by grind
    have e2:z*(wtN v t m.1 4:Nat)*m.2.den=N*(m.2.num*(wtN v t m.1 4:Nat)):=by
     have:z*(wtN v t m.1 4:Nat)*m.2.den=(z*m.2.den)*(wtN v t m.1 4:Nat):=by grind
     rw [this,h7];grind
    rw [e1,e2];exact h10
   ·have e:(m.1.get v).toNat≠i:=by omega
    rw [if_neg hc,Int.add_zero,List.getD_eq_getElem?_getD,List.getElem?_set_ne e,<- List.getD_eq_getElem?_getD];exact Cg.refl _
theorem getD_replicate (n i:Nat):(List.replicate n 0).getD i 0=0:=by
 rw [List.getD_eq_getElem?_getD];rcases Nat.lt_or_ge i n with h|h
 ·rw [List.getElem?_replicate,if_pos h];rfl
 ·rw [List.getElem?_eq_none (by simpa using h)];rfl
def polyL (v:Nat) (l:List Nat):MP:=msum (fun i=>c ((l.getD i 0:Nat):Rat)*xk v i) l.length
theorem co_polyL (v:Nat) (l:List Nat) (i:Nat):(polyL v l).co v i=c ((l.getD i 0:Nat):Rat):=by
 rw [polyL,co_msum];rcases Nat.lt_or_ge i l.length with h|h
 ·rw [msum_delta _ h fun j _ hj=>by rw [co_mul_fr (fr_c _ _),co_xk_self,if_neg (Ne.symm hj)];grind];rw [co_mul_fr (fr_c _ _),co_xk_self,if_pos rfl];grind
 ·rw [msum_congr (g:=fun _=>0) fun j hj=>by rw [co_mul_fr (fr_c _ _),co_xk_self,if_neg (by omega)];grind,msum_zero];rw [List.getD_eq_getElem?_getD,List.getElem?_eq_none h];rfl
theorem deg_polyL (v:Nat) (l:List Nat):(polyL v l).deg v<=(l.length:Int)-1:=by
 refine deg_le_of (by omega) fun n hn=>?_;rw [co_polyL,List.getD_eq_getElem?_getD,List.getElem?_eq_none (by omega)];rfl
theorem ext_co (v:Nat) {p q:MP} (h:∀ i,p.co v i=q.co v i):p=q:=by
 obtain⟨N,hN⟩:∃ N,N=(max (p.deg v) (q.deg v)).toNat+1:=⟨_,rfl⟩;rw [split v p (N:=N) (by omega),split v q (N:=N) (by omega)];exact msum_congr fun i _=>by rw [h i]
def DvP (v:Nat) (F:MP) (l:List Nat):Prop:=∃ E R:MP,E.dv 1/\R.dv 1/\polyL v l=F*E+c (pr:Rat)*R
theorem dv_nat (n:Nat):(c (n:Rat)).dv 1:=by rw [<- Rat.intCast_natCast];exact dv_int 1 _
theorem dv_xk (v k:Nat):(xk v k).dv 1:=fun t ht=>by rw [List.mem_singleton.1 ht];exact Dv.int 1 1
theorem dv_polyL (v:Nat) (l:List Nat):(polyL v l).dv 1:=dv_msum fun i _=>dv_mul1 (dv_nat _) (dv_xk v i)
theorem getD_set (l:List Nat) (k y i:Nat) (hk:k<l.length):(l.set k y).getD i 0=if i=k then y else l.getD i 0:=by
 rw [List.getD_eq_getElem?_getD];by_cases h:i=k
 ·subst h;rw [if_pos rfl,List.getElem?_set_self hk];rfl
 ·rw [if_neg h,List.getElem?_set_ne (Ne.symm h),List.getD_eq_getElem?_getD]
theorem c_add (r s:Rat):c (r+s)=c r+c s:=ext' fun x=>by rw [MP.ev_add,ev_c,ev_c,ev_c]
theorem strip_get:∀ (l:List Nat) (i:Nat),(strip l).getD i 0=l.getD i 0
|[],_=>rfl
|x::l,i=>by
  have ih:=strip_get l;rw [strip];split
  ·rename_i h;rw [h] at ih;have hz:∀ j,l.getD j 0=0:=fun j=>by rw [<- ih j];rfl
   split
   ·rename_i hx
    cases i with
   |zero=>rw [hx];rfl
   |succ i=>have:=hz i;simpa using this.symm
   ·cases i with
   |zero=>rfl
   |succ i=>have:=hz i;simpa using this.symm
  ·rename_i y r h;rw [<- h]
   cases i with
  |zero=>rfl
  |succ i=>have:=ih i;simpa using this
theorem polyL_strip (v:Nat) (l:List Nat):polyL v (strip l)=polyL v l:=ext_co v fun i=>by rw [co_polyL,co_polyL,strip_get]
def Tp (l:List Nat):Prop:=l≠[]->l.getD (l.length-1) 0≠0
theorem strip_tp:∀ l:List Nat,Tp (strip l)
|[]=>fun h=>absurd rfl h
|x::l=>by
  have ih:=strip_tp l;rw [strip];split
  ·split
   ·exact fun h=>absurd rfl h
   ·rename_i hx;exact fun _=>hx
  ·rename_i y r h;rw [h] at ih;intro _;have:=ih (by simp);simpa using this
theorem strip_len:∀ l:List Nat,(strip l).length<=l.length
|[]=>Nat.le_refl _
|x::l=>by
  have ih:=strip_len l;rw [strip];split
  ·split <;> simp
  ·rename_i y r h;rw [h] at ih;simpa using ih
theorem strip_lt {l:List Nat} (h0:l≠[]) (h:l.getD (l.length-1) 0=0):(strip l).length<l.length:=by
 have h1:=strip_len l;rcases Nat.eq_or_lt_of_le h1 with e|hlt
 ·exfalso;have hne:strip l≠[]:=fun h'=>by rw [h'] at e;have:=List.length_eq_zero_iff.1 e.symm;exact h0 this
  have h2:=strip_tp l hne;rw [strip_get,e] at h2;exact h2 h
 ·exact hlt
theorem strip_lim {l:List Nat} (h:∀ x∈l,x<pr):∀ x∈strip l,x<pr:=by
 induction l with
|nil=>exact h
|cons x l ih =>
  have ih:=ih fun y hy=>h y (by simp [hy]);rw [strip];split
  ·split
   ·intro _ hy;cases hy
   ·intro y hy;rw [List.mem_singleton.1 hy];exact h x (by simp)
  ·rename_i z r e;rw [e] at ih;intro y hy;rcases List.mem_cons.1 hy with rfl|hy
   ·exact h _ (by simp)
   ·exact ih y hy
theorem redTo_ln (b rest:List Nat) (f at_:Nat):∀ i,(redTo b rest f at_ i).length=rest.length
|0=>rfl
|i+1=>by rw [redTo,List.length_set,redTo_ln b rest f at_ i]
theorem redTo_lim {b rest:List Nat} {f at_:Nat} (h:∀ x∈rest,x<pr):∀ i,∀ x∈redTo b rest f at_ i,x<pr
|0=>h
|i+1=>fun x hx=>by
  rw [redTo] at hx;rcases List.mem_or_eq_of_mem_set hx with hx|rfl
  ·exact redTo_lim h i x hx
  ·exact Nat.mod_lt _ (by decide)
theorem redTo_get {b rest:List Nat} {f at_:Nat}:∀ (i:Nat),at_+i<=rest.length->∀ j,(redTo b rest f at_ i).getD j 0=if at_<=j/\j<at_+i then (rest.getD j 0+(pr-b.getD (j-at_) 0)*f) % pr else rest.getD j 0
|0,_,j=>by rw [redTo,if_neg (by omega)]
|i+1,h,j=>by
  have ih:=redTo_get (b:=b) (rest:=rest) (f:=f) (at_:=at_) i (by omega);rw [redTo,getD_set _ _ _ _ (by rw [redTo_ln];omega),ih j,ih (at_+i)];by_cases hj:j=at_+i
  ·subst hj;rw [if_pos rfl,if_neg (by omega),if_pos (by omega),show at_+i-at_=i by omega]
  ·rw [if_neg hj];by_cases h2:at_<=j/\j<at_+i
   ·rw [if_pos h2,if_pos (by omega)]
   ·rw [if_neg h2,if_neg (by omega)]
theorem DvP.red {v:Nat} {F:MP} {b rest:List Nat} (hr:DvP v F rest) (hb:DvP v F b) (hbl:∀ x∈b,x<pr) (f:Nat) {at_:Nat} (h:at_+b.length=rest.length):DvP v F (redTo b rest f at_ b.length):=by
 obtain⟨E,R,iE,iR,e⟩:=hr;obtain⟨E',R',iE',iR',e'⟩:=hb
 have key:∃ K:MP,K.dv 1/\polyL v (redTo b rest f at_ b.length)=polyL v rest-c (f:Rat)*(xk v at_*polyL v b)+c (pr:Rat)*K:=by
  have hq:∀ j,∃ k:Int,((redTo b rest f at_ b.length).getD j 0:Int)=(rest.getD j 0:Int)-(if at_<=j then (f:Int)*(b.getD (j-at_) 0:Nat) else 0)+2147483647*k:=fun j=>by
   rw [redTo_get b.length (by omega)];by_cases h1:at_<=j/\j<at_+b.length
   ·rw [if_pos h1,if_pos h1.1]
    have hlt:b.getD (j-at_) 0<pr:=by
     rw [List.getD_eq_getElem?_getD,List.getElem?_eq_getElem (by omega:j-at_<b.length)];exact hbl _ (List.getElem_mem _)
    obtain⟨y,hy⟩:∃ y,y=b.getD (j - at_) 0:=⟨_,rfl⟩;rw [<- hy] at hlt ⊢;obtain⟨k,hk⟩:=Cg.mod (rest.getD j 0+(pr - y)*f);refine⟨k+f,?_⟩;rw [hk,Int.natCast_add,Int.natCast_mul,Int.ofNat_sub (by omega),pr_eq];grind
   ·rw [if_neg h1];refine⟨0,?_⟩;by_cases h2:at_<=j
    ·rw [if_pos h2,List.getD_eq_getElem?_getD (l:=b),List.getElem?_eq_none (by omega)];simp
    ·rw [if_neg h2];omega
  have ⟨k,hk⟩:∃ k:Nat->Int,∀ j,((redTo b rest f at_ b.length).getD j 0:Int)=(rest.getD j 0:Int)-(if at_<=j then (f:Int)*(b.getD (j-at_) 0:Nat) else 0)+2147483647*k j :=
   ⟨fun j=>(((redTo b rest f at_ b.length).getD j 0:Int)-((rest.getD j 0:Int)-(if at_<=j then (f:Int)*(b.getD (j-at_) 0:Nat) else 0))) / 2147483647,fun j=>by
    obtain⟨k,hk⟩:=hq j
    simp only [hk];omega⟩
  refine⟨msum (fun i=>c (k i:Rat)*xk v i) rest.length,dv_msum fun i _=>dv_mul1 (dv_int 1 _) (dv_xk v i),ext_co v fun j=>?_⟩
  have hK:(msum (fun i=>c (k i:Rat)*xk v i) rest.length).co v j=if j<rest.length then c (k j:Rat) else 0:=by
   rw [co_msum];split
   ·rename_i hj;rw [msum_delta _ hj fun i _ hi=>by rw [co_mul_fr (fr_c _ _),co_xk_self,if_neg (Ne.symm hi)];grind];rw [co_mul_fr (fr_c _ _),co_xk_self,if_pos rfl];grind
   ·rename_i hj;rw [msum_congr (g:=fun _=>0) fun i hi=>by rw [co_mul_fr (fr_c _ _),co_xk_self,if_neg (by omega)];grind,msum_zero]
  rw [co_add,co_sub,co_mul_fr (fr_c _ _),co_xk,co_mul_fr (fr_c _ _),hK,co_polyL,co_polyL,co_polyL];have h1:=hk j
  have h2:(((redTo b rest f at_ b.length).getD j 0:Nat):Rat)=(rest.getD j 0:Nat)-(if at_<=j then (f:Rat)*(b.getD (j-at_) 0:Nat) else 0)+(pr:Rat)*(k j:Rat):=by
   have h3:=congrArg (fun z:Int=>(z:Rat)) h1;simp only [Rat.intCast_add,Rat.intCast_sub,Rat.intCast_mul,Rat.intCast_natCast] at h3;rw [h3,pr_eq];by_cases hc:at_<=j
   ·rw [if_pos hc,if_pos hc,Rat.intCast_mul,Rat.intCast_natCast,Rat.intCast_natCast];rfl
   ·rw [if_neg hc,if_neg hc];rfl
  rw [h2]
  have hk0:¬ j<rest.length->(k j:Rat)=0:=fun hj=>by
   have z1:(redTo b rest f at_ b.length).getD j 0=0:=by rw [List.getD_eq_getElem?_getD,List.getElem?_eq_none (by rw [redTo_ln];omega)];rfl
   have z2:rest.getD j 0=0:=by rw [List.getD_eq_getElem?_getD,List.getElem?_eq_none (by omega)];rfl
   have z3:b.getD (j-at_) 0=0:=by rw [List.getD_eq_getElem?_getD,List.getElem?_eq_none (by omega)];rfl
   rw [z1,z2,z3] at h1;have:k j=0:=by split at h1 <;> omega
   rw [this];rfl
  refine ext' fun x=>?_;by_cases hj:j<rest.length
  ·rw [if_pos hj];by_cases hc:at_<=j
   ·rw [if_pos hc,if_pos hc];simp only [MP.ev_add,MP.ev_sub,MP.ev_mul,ev_c]
   ·rw [if_neg hc,if_neg hc];simp only [MP.ev_add,MP.ev_sub,MP.ev_mul,ev_c,ev_zero];grind
  ·rw [if_neg hj,hk0 hj];by_cases hc:at_<=j
   ·rw [if_pos hc,if_pos hc];simp only [MP.ev_add,MP.ev_sub,MP.ev_mul,ev_c,ev_zero]
   ·rw [if_neg hc,if_neg hc];simp only [MP.ev_add,MP.ev_sub,MP.ev_mul,ev_c,ev_zero];grind
 obtain⟨K,iK,eK⟩:=key;have i1:(c (f:Rat)*xk v at_).dv 1:=dv_mul1 (dv_nat f) (dv_xk v at_);refine⟨E - c (f:Rat)*xk v at_*E',R - c (f:Rat)*xk v at_*R'+K,dv_sub iE (dv_mul1 i1 iE'),dv_add (dv_sub iR (dv_mul1 i1 iR')) iK,?_⟩;rw [eK,e,e'];grind
theorem DvP.strip {v:Nat} {F:MP} {l:List Nat} (h:DvP v F l):DvP v F (strip l):=by
 obtain⟨E,R,iE,iR,e⟩:=h;exact⟨E,R,iE,iR,by rw [polyL_strip,e]⟩
structure Gd (v:Nat) (F:MP) (l:List Nat):Prop where
 d:DvP v F l
 t:Tp l
 m:∀ x∈l,x<pr
theorem Gd.rest {v:Nat} {F:MP} {b:List Nat} (hb:Gd v F b) (inv:Nat):∀ {n:Nat} {r x:List Nat},restO b inv n r=some x->Gd v F r->Gd v F x
|0,_,_,h,_=>by cases h
|n+1,r,x,h,hr=>by
  rw [restO] at h;split at h
  ·rename_i hle;exact Gd.rest hb inv h ⟨(hr.d.red hb.d hb.m _ (by omega)).strip,strip_tp _,strip_lim (redTo_lim hr.m _)⟩
  ·simp only [Option.some.injEq] at h;subst h;exact hr
theorem Gd.share {v:Nat} {F:MP}:∀ {n:Nat} {a b:List Nat} {k:Nat},shareGo n a b=some k->Gd v F a->Gd v F b->a≠[]->∃ l,Gd v F l/\l≠[]/\l.length=k
|0,_,_,_,h,_,_,_=>by cases h
|n+1,a,b,k,h,ha,hb,hne=>by
  rw [shareGo] at h;split at h
  ·simp only [Option.some.injEq] at h;exact⟨a,ha,hne,h⟩
  ·rename_i hb0;split at h
   ·cases h
   ·rename_i r hr;exact Gd.share h hb (hb.rest _ hr ha) hb0
theorem Gd.len {v:Nat} {F:MP} {l:List Nat} (h:Gd v F l) (hne:l≠[]) (iF:F.dv 1) (hF:¬ zdv pr (F.lc v)):F.deg v<=(l.length:Int)-1:=by
 obtain⟨E,R,iE,iR,e⟩:=h.d;have hp0:0<pr:=by decide
 rcases Int.lt_or_le ((l.length:Int) - 1) (F.deg v) with hlt|hle
 ·exfalso;have eE:=sel_add (mulB pr) E;obtain⟨X,iX,eX⟩:=sel_zdv hp0 iE;obtain⟨E2,hE2⟩:∃ g,g=sel (fun t=>!mulB pr t) E:=⟨_,rfl⟩;have iE2:E2.dv 1:=by rw [hE2];exact sel_dv iE
  rw [<- hE2,eX] at eE;have e2:polyL v l=F*E2+c (pr:Rat)*(F*X+R):=by rw [e,eE];grind
  have iR2:(F*X+R).dv 1:=dv_add (dv_mul1 iF iX) iR;have hF0:F≠0:=fun h0=>hF (by rw [h0];exact zdv_zero pr);by_cases hz:E2=0
  ·have h1:=congrArg (fun g=>cf (MP.co v (l.length-1) g).l e0) e2;simp only [co_polyL,hz] at h1;have e3:F*0+c (pr:Rat)*(F*X+R)=c (pr:Rat)*(F*X+R):=by grind
   rw [e3,co_mul_fr (fr_c _ _),cf_cmul] at h1
   have i3:((F*X+R).co v (l.length-1)).dv 1:=fun t ht=>by
    have ht:t∈((F*X+R).l.filter fun u=>u.1.get v=((l.length - 1:Nat):Int)).map fun u=>(u.1.put v 0,u.2):=ht;obtain⟨u,hu,rfl⟩:=List.mem_map.1 ht;exact iR2 u (List.mem_filter.1 hu).1
   obtain⟨z,hz⟩:=int_of_dv (cf_dv i3 e0);rw [hz] at h1;have ht:=h.t hne
   have hm:l.getD (l.length-1) 0<pr:=by
    rw [List.getD_eq_getElem?_getD,List.getElem?_eq_getElem (by have:=List.length_pos_iff.2 hne;omega:l.length-1<l.length)];exact h.m _ (List.getElem_mem _)
   have e4:cf (c ((l.getD (l.length-1) 0:Nat):Rat)).l e0=((l.getD (l.length-1) 0:Nat):Rat):=by
    show cf (constP _) e0=_;rw [constP,if_neg (nat_ne (by omega)),cf_cons,cf_nil,if_pos rfl];exact Rat.add_zero _
   rw [e4,<- Rat.intCast_natCast,<- Rat.intCast_natCast,<- Rat.intCast_mul] at h1;have h5:=Rat.intCast_inj.1 h1;have h6:(0:Int)<((l.getD (l.length-1) 0:Nat):Int):=by omega
   rw [pr_eq] at *;omega
  ·have h1:=congrArg (fun g=>MP.co v ((F.deg v).toNat+(E2.deg v).toNat) g) e2;simp only [co_add] at h1;rw [co_mul_top v hF0 hz,co_mul_fr (fr_c _ _)] at h1;have hd:=deg_polyL v l;have:=deg_pos hF0 v;rw [co_above (by omega)] at h1
   have i3:((F*X+R).co v ((F.deg v).toNat+(E2.deg v).toNat)).dv 1:=fun t ht=>by
    have ht:t∈((F*X+R).l.filter fun u=>u.1.get v=(((F.deg v).toNat+(E2.deg v).toNat:Nat):Int)).map fun u=>(u.1.put v 0,u.2):=ht;obtain⟨u,hu,rfl⟩:=List.mem_map.1 ht;exact iR2 u (List.mem_filter.1 hu).1
   have icoF:(F.lc v).dv 1:=fun t ht=>by
    have ht:t∈(F.l.filter fun u=>u.1.get v=((F.deg v).toNat:Int)).map fun u=>(u.1.put v 0,u.2):=ht;obtain⟨u,hu,rfl⟩:=List.mem_map.1 ht;exact iF u (List.mem_filter.1 hu).1
   have icoE:(E2.lc v).dv 1:=fun t ht=>by
    have ht:t∈(E2.l.filter fun u=>u.1.get v=((E2.deg v).toNat:Int)).map fun u=>(u.1.put v 0,u.2):=ht;obtain⟨u,hu,rfl⟩:=List.mem_map.1 ht;exact iE2 u (List.mem_filter.1 hu).1
   have hz2:zdv pr (F.lc v*E2.lc v):=⟨-((F*X+R).co v ((F.deg v).toNat+(E2.deg v).toNat)),dv_neg i3,by grind⟩;rcases zdv_prime prm_pr icoF icoE hz2 with h3|h3
   ·exact hF h3
   ·obtain⟨Y,iY,eY⟩:=h3;obtain⟨t,r,ht⟩:=head_ex (lc_ne hz v);have htm:t∈(E2.lc v).l:=by rw [ht];simp
    have h4:=cf_mem htm;rw [eY,cf_cmul] at h4;have htm':t∈(E2.l.filter fun u=>u.1.get v=((E2.deg v).toNat:Int)).map fun u=>(u.1.put v 0,u.2):=htm;obtain⟨u,hu,rfl⟩:=List.mem_map.1 htm';have hu1:=(List.mem_filter.1 hu).1;rw [hE2] at hu1;have hu2:u∈E.l.filter (fun t=>!mulB pr t):=hu1;have hu3:=(List.mem_filter.1 hu2).2;obtain⟨y,hy⟩:=int_of_dv (cf_dv iY (u.1.put v 0));obtain⟨x,hx⟩:=int_of_dv (iE u (List.mem_filter.1 hu2).1);simp only [mulB,Bool.not_eq_true',decide_eq_false_iff_not,hx] at hu3;have h4:(pr:Rat)*cf Y.l (u.1.put v 0)=u.2:=h4;rw [hy,hx,<- Rat.intCast_natCast,<- Rat.intCast_mul] at h4;exact hu3 (Int.emod_eq_zero_of_dvd ⟨y,(Rat.intCast_inj.1 h4).symm⟩)
 ·exact hle
end Q
end
