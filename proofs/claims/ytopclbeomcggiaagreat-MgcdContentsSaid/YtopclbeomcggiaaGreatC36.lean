/- The bound by images: where it is 0, common divisors have degree 0; it always answers. No program in sight. What the steps of the greatest common divisor answer, in the ring: pseudo-remainders, quotients, normal polynomials. No program in sight. Where it answers, the program's greatest common divisor is the normal greatest common divisor. No program in sight. Plain laws of normal greatest common divisors and contents. No program in sight. Sizes of polynomials: denominators and sums of absolute values. No program in sight. -/
import Derived.Test.YtopclbeomcggiaaGreatC32
import Derived.Test.YtopclbeomcggiaaGreatC35
set_option linter.unusedVariables false
set_option linter.unusedSimpArgs false
set_option maxHeartbeats 16000000
set_option maxRecDepth 100000
section
namespace Q
open MP
theorem subs_c (v t:Nat) (r:Rat):∀ w,subs v t w (c r)=c r
|0=>rfl
|w+1=>by simp only [subs];split <;> simp only [subs_c v t r w,at_c]
theorem subs_fr (v t:Nat) (p:MP):∀ w,w<=4->∀ u,u<w->u≠v->(subs v t w p).fr u
|0,_,u,h,_=>by omega
|w+1,hw,u,h,hne=>by
  simp only [subs];split
  ·rename_i e;exact subs_fr v t p w (by omega) u (by omega) hne
  ·rcases Nat.eq_or_lt_of_le (show u<=w by omega) with e|h1
   ·subst e;exact fr_at _ _ _
   ·have h2:(subs v t w p).deg u<=(0:Nat):=subs_fr v t p w (by omega) u h1 hne;exact deg_at _ _ (by omega) (by omega) h2
theorem cf_co (v i:Nat) (hv:v<4) (p:MP):cf (p.co v i).l e0=cf p.l (e0.put v i):=by
 show Lf _ (coeffP p.l v i)=Lf _ _;rw [Lf_coeff];refine Lf_congr fun s _=>?_;by_cases h:s.1=e0.put v i
 ·rw [if_pos h,h,Ex.get_put,if_pos rfl,Ex.put_put,if_pos];have:=Ex.put_get e0 v;rw [e0_get] at this;exact this
 ·rw [if_neg h];by_cases h2:s.1.get v=(i:Int)
  ·rw [if_pos h2,if_neg fun h3=>h (by rw [<- h3,Ex.put_put,<- h2,Ex.put_get])]
  ·rw [if_neg h2]
theorem c_cf {p:MP} (h:p.lo 0):p=c (cf p.l e0):=by
 obtain⟨r,rfl⟩:=const_of h
 congr 1
 show r=cf (constP r) e0;unfold constP;split
 ·rename_i h;rw [h];rfl
 ·rw [cf_cons,cf_nil,if_pos rfl];exact (Rat.add_zero _).symm
theorem co_subs (v t i:Nat) (hv:v<4) (p:MP):(subs v t 4 p).co v i=c (cf (subs v t 4 p).l (e0.put v i)):=by
 rw [<- cf_co v i hv];refine c_cf fun w _ hw=>?_;by_cases h:w=v
 ·subst h;exact co_fr _ _ _
 ·exact fr_co hw hv (subs_fr v t p 4 (Nat.le_refl _) w hw h)
def prodD:List Trm->Nat
|[]=>1
|t::l=>t.2.den*prodD l
theorem prodD_pos:∀ l,0<prodD l
|[]=>Nat.one_pos
|t::l=>Nat.mul_pos t.2.den_pos (prodD_pos l)
theorem prodD_dv:∀ {l:List Trm},∀ t∈l,Dv (prodD l) t.2
|s::l,t,h=>by
  rcases List.mem_cons.1 h with rfl|h
  ·exact (dv_den _).dvd (Nat.dvd_mul_right _ _)
  ·exact (prodD_dv t h).dvd (Nat.dvd_mul_left _ _)
theorem imgGo_prod {v t:Nat}:∀ {l:List Trm} {out x:List Nat},imgGo v t l out=some x->¬ pr∣prodD l
|[],_,_,_=>by decide
|m::l,out,x,h=>by
  rw [imgGo] at h;split at h
  ·cases h
  ·rename_i hres;have ih:=imgGo_prod h;intro hd;rcases prm_dvdN prm_pr hd with h1|h1
   ·apply hres;have h2:=resid_cg (m.2.den:Int);have h3:=resid_lt (m.2.den:Int);obtain⟨a,ha⟩:=h1;obtain⟨b,hb⟩:=h2;rw [pr_eq] at ha;omega
   ·exact ih h1
theorem imgGo_lim {v t:Nat}:∀ {l:List Trm} {out x:List Nat},imgGo v t l out=some x->(∀ y∈out,y<pr)->∀ y∈x,y<pr
|[],out,x,h,ho=>by simp only [imgGo,Option.some.injEq] at h;subst h;exact ho
|m::l,out,x,h,ho=>by
  rw [imgGo] at h;split at h
  ·cases h
  ·refine imgGo_lim h fun y hy=>?_;rcases List.mem_or_eq_of_mem_set hy with hy|rfl
   ·exact ho y hy
   ·exact Nat.mod_lt _ (by decide)
theorem bez {N:Nat} (h:¬ pr∣N):∃ M K:Int,(N:Int)*M=1+(pr:Int)*K:=by
 have h0:0<N % pr:=Nat.pos_of_ne_zero fun e=>h (Nat.dvd_of_mod_eq_zero e);have hlt:N % pr<pr:=Nat.mod_lt _ (by decide);have h1:=inv_pr h0 hlt;have h2:=Cg.mod (powm (N % pr) (pr - 2)*(N % pr));rw [h1] at h2;have h3:=Cg.mod N;have h4:=(Cg.refl ((powm (N % pr) (pr - 2):Nat):Int)).mul h3;rw [Int.natCast_mul] at h2;obtain⟨k,hk⟩:=(h2.trans h4).symm;exact⟨powm (N % pr) (pr - 2),k,by rw [pr_eq];rw [Int.mul_comm];exact hk⟩
structure Im (v:Nat) (d:MP) (F:MP) (x:List Nat):Prop where
 g:Gd v F x
 ne:x≠[]
 i:F.dv 1
 l:¬ zdv pr (F.lc v)
 dg:F.deg v=d.deg v
theorem co_dv {D:Nat} {p:MP} (h:p.dv D) (v n:Nat):(p.co v n).dv D:=fun t ht=>by
 have ht:t∈(p.l.filter fun u=>u.1.get v=(n:Int)).map fun u=>(u.1.put v 0,u.2):=ht;obtain⟨u,hu,rfl⟩:=List.mem_map.1 ht;exact h u (List.mem_filter.1 hu).1
theorem img_im {v t:Nat} (hv:v<4) {a d:MP} (ha:a≠0) (he:∀ m∈a.l,∀ w,m.1.get w<18446744073709551616) {r:Rat} (hr:r≠0) (hp:pz (c r*d)) (hd:d∣a) {x:List Nat} (hx:imgO a.l v t=some x) (hf:fineB (some x)=true) :
  Im v d (subs v t 4 (c r*d)) x:=by
 obtain⟨e,rfl⟩:=hd;have hpd:=imgGo_prod hx;obtain⟨N,hN⟩:∃ N,N=prodD (d*e).l:=⟨_,rfl⟩;rw [<- hN] at hpd;have hN0:0<N:=by rw [hN];exact prodD_pos _
 have hdv:(d*e).dv N:=by rw [hN];exact fun t ht=>prodD_dv t ht
 obtain⟨D,hD⟩:∃ D,D=c r*d:=⟨_,rfl⟩;rw [<- hD] at hp ⊢;obtain⟨E,hE⟩:∃ E,E=c ((N:Rat)*r⁻¹)*e:=⟨_,rfl⟩
 have hA:c (N:Rat)*(d*e)=D*E:=by
  rw [hD,hE]
  have h1:c r*c ((N:Rat)*r⁻¹)=c (N:Rat):=by
   rw [c_mul];congr 1;have:=Rat.mul_inv_cancel _ hr;grind
  rw [<- h1];grind
 have iE:E.dv 1:=gaussZ (dv_clear hdv) hp hA
 have hAA:c (N:Rat)*subs v t 4 (d*e)=subs v t 4 D*subs v t 4 E:=by
  rw [<- subs_mul,<- hA,subs_mul v t 4 (c (N:Rat)),subs_c]
 have d0:d≠0:=fun h=>ha (by rw [h];grind);have e0':e≠0:=fun h=>ha (by rw [h];grind);have hdeg:=deg_pos ha v;have hlen0:(List.replicate (degP (d*e).l v+1).toNat 0).length=((d*e).deg v+1).toNat:=by rw [List.length_replicate];rfl
 obtain⟨L,hL⟩:∃ L,L=((d*e).deg v+1).toNat:=⟨_,rfl⟩;rw [<- hL] at hlen0
 obtain⟨h1,h2⟩:=imgGo_cg (N:=N) hv hx (d*e).v.nat he hdv fun m hm=>by
  rw [hlen0];have:=degP_le hm v;have h':(d*e).deg v=degP (d*e).l v:=rfl;have:=Ex.nat_get ((d*e).v.nat m hm) v;omega
 rw [hlen0] at h1 h2
 have hz:∀ i,c (N:Rat)*(subs v t 4 (d*e)).co v i=c ((cS N v t i (d*e).l:Int):Rat):=fun i=>by
  rw [co_subs v t i hv,c_mul,cf_subs v t hv,cS_eq hdv]
 have hx0:∀ i,L<=i->x.getD i 0=0:=fun i hi=>by rw [List.getD_eq_getElem?_getD,List.getElem?_eq_none (by omega)];rfl
 have hco0:∀ i,L<=i->(subs v t 4 (d*e)).co v i=0:=fun i hi=>co_above (by
  have:=subs_deg v t hv 4 (Nat.le_refl _) (p:=d*e) (u:=v) (d:=((d*e).deg v).toNat) hv (by omega);omega)
 have hxm:∀ y∈x,y<pr:=imgGo_lim hx fun y hy=>by rw [(List.mem_replicate.1 hy).2];decide
 have hne:x≠[]:=fun h=>by rw [h] at h1;simp at h1;omega
 have hlast:x.getD (x.length-1) 0≠0:=of_decide_eq_true hf
 -- the congruence of polynomials
 have ⟨k,hk⟩:∃ k:Nat->Int,∀ i,i<L->(N:Int)*x.getD i 0=cS N v t i (d*e).l+2147483647*k i :=
  ⟨fun i=>((N:Int)*x.getD i 0-cS N v t i (d*e).l) / 2147483647,fun i hi=>by
   obtain⟨k,hk⟩:=h2 i hi;rw [getD_replicate] at hk
   simp only [hk];omega⟩
 have hpoly:c (N:Rat)*polyL v x=c (N:Rat)*subs v t 4 (d*e)+c (pr:Rat)*msum (fun i=>c (k i:Rat)*xk v i) L:=ext_co v fun i=>by
  have hK:(msum (fun i=>c (k i:Rat)*xk v i) L).co v i=if i<L then c (k i:Rat) else 0:=by
   rw [co_msum];split
   ·rename_i hj;rw [msum_delta _ hj fun j _ hi=>by rw [co_mul_fr (fr_c _ _),co_xk_self,if_neg (Ne.symm hi)];grind];rw [co_mul_fr (fr_c _ _),co_xk_self,if_pos rfl];grind
   ·rename_i hj;rw [msum_congr (g:=fun _=>0) fun j hj=>by rw [co_mul_fr (fr_c _ _),co_xk_self,if_neg (by omega)];grind,msum_zero]
  rw [co_add,co_mul_fr (fr_c _ _),co_mul_fr (fr_c _ _),co_mul_fr (fr_c _ _),hK,co_polyL];rcases Nat.lt_or_ge i L with hi|hi
  ·rw [if_pos hi,hz,c_mul,c_mul,<- c_add];congr 1;have:=congrArg (fun z:Int=>(z:Rat)) (hk i hi);simp only [Rat.intCast_add,Rat.intCast_mul,Rat.intCast_natCast] at this;rw [this,pr_eq];rfl
  ·rw [if_neg (by omega),hco0 i hi,hx0 i hi];have e1:c ((0:Nat):Rat)=0:=rfl;rw [e1];grind
 obtain⟨M,K,hMK⟩:=bez hpd
 have hDv:DvP v (subs v t 4 D) x:=by
  refine⟨c (M:Rat)*subs v t 4 E,c (M:Rat)*msum (fun i=>c (k i:Rat)*xk v i) L-c (K:Rat)*polyL v x,dv_mul1 (dv_int 1 _) (subs_dv v t 4 iE),dv_sub (dv_mul1 (dv_int 1 _) (dv_msum fun i _=>dv_mul1 (dv_int 1 _) (dv_xk v i))) (dv_mul1 (dv_int 1 _) (dv_polyL v x)),?_⟩
  have h3:c (N:Rat)*c (M:Rat)=1+c (pr:Rat)*c (K:Rat):=by
   rw [c_mul,c_mul,<- c_one,<- c_add];congr 1;have:=congrArg (fun z:Int=>(z:Rat)) hMK;simp only [Rat.intCast_add,Rat.intCast_mul,Rat.intCast_natCast] at this;exact this
  have h4:c (M:Rat)*(c (N:Rat)*polyL v x)=c (M:Rat)*(subs v t 4 D*subs v t 4 E+c (pr:Rat)*msum (fun i=>c (k i:Rat)*xk v i) L):=by rw [hpoly,hAA]
  grind
 have htop:¬ zdv pr ((c (N:Rat)*subs v t 4 (d*e)).co v (L-1)):=fun⟨Y,iY,eY⟩=>by
  rw [co_mul_fr (fr_c _ _),hz] at eY;have h3:=congrArg (fun g:MP=>cf g.l e0) eY
  have hcc:∀ r:Rat,cf (c r).l e0=r:=fun r=>by
   show cf (constP r) e0=r;unfold constP;split
   ·rename_i h;rw [h];rfl
   ·rw [cf_cons,cf_nil,if_pos rfl];exact Rat.add_zero _
  simp only [cf_cmul,hcc] at h3;obtain⟨y,hy⟩:=int_of_dv (cf_dv iY e0);rw [hy,<- Rat.intCast_natCast,<- Rat.intCast_mul] at h3;have h4:=Rat.intCast_inj.1 h3;have h5:=hk (L - 1) (by omega)
  have h6:pr∣N*x.getD (L-1) 0:=by
   refine Int.ofNat_dvd.1 ⟨y+k (L-1),?_⟩;rw [Int.natCast_mul,h5,h4,pr_eq,Int.mul_add];rfl
  rcases prm_dvdN prm_pr h6 with h7|h7
  ·exact hpd h7
  ·rw [h1] at hlast;have h8:=Nat.le_of_dvd (Nat.pos_of_ne_zero hlast) h7
   have h9:x.getD (L-1) 0<pr:=by
    rw [List.getD_eq_getElem?_getD,List.getElem?_eq_getElem (by omega:L-1<x.length)];exact hxm _ (List.getElem_mem _)
   omega
 have hAA0:c (N:Rat)*subs v t 4 (d*e)≠0:=fun h=>htop (by rw [h];exact zdv_zero pr)
 have hdA:(L-1:Nat)<=(c (N:Rat)*subs v t 4 (d*e)).deg v:=by
  rcases Int.lt_or_le ((c (N:Rat)*subs v t 4 (d*e)).deg v) (L - 1:Nat) with h|h
  ·exact absurd (by rw [co_above h];exact zdv_zero pr) htop
  ·exact h
 have hDD0:subs v t 4 D≠0:=fun h=>hAA0 (by rw [hAA,h];grind);have hEE0:subs v t 4 E≠0:=fun h=>hAA0 (by rw [hAA,h];grind);have hDd:D.deg v=d.deg v:=by rw [hD,deg_mul (c_ne hr) d0,fr_deg (fr_c _ _) (c_ne hr)];omega
 have hEd:E.deg v=e.deg v:=by
  have hc0:c ((N:Rat)*r⁻¹)≠0:=c_ne (rmul_ne (nat_ne hN0) fun h=>by have:=Rat.mul_inv_cancel _ hr;rw [h] at this;grind);rw [hE,deg_mul hc0 e0',fr_deg (fr_c _ _) hc0];omega
 have hdd:=deg_mul d0 e0' v;have hd1:=subs_deg v t hv 4 (Nat.le_refl _) (p:=D) (u:=v) (d:=(D.deg v).toNat) hv (by omega);have hd2:=subs_deg v t hv 4 (Nat.le_refl _) (p:=E) (u:=v) (d:=(E.deg v).toNat) hv (by omega);have hdp:=deg_pos d0 v;have hep:=deg_pos e0' v;rw [hAA,deg_mul hDD0 hEE0] at hdA;have hFd:(subs v t 4 D).deg v=d.deg v:=by omega
 refine⟨⟨hDv,fun _=>hlast,hxm⟩,hne,subs_dv v t 4 hp.1,fun hzd=>htop ?_,hFd⟩;have:L-1=((subs v t 4 D).deg v).toNat+((subs v t 4 E).deg v).toNat:=by omega
 rw [hAA,this,co_mul_top v hDD0 hEE0];exact zdv_mul hzd (co_dv (subs_dv v t 4 iE) _ _)
theorem share_deg {v t:Nat} (hv:v<4) {a b d:MP} (ha:a≠0) (hb:b≠0) (hea:∀ m∈a.l,∀ w,m.1.get w<18446744073709551616) (heb:∀ m∈b.l,∀ w,m.1.get w<18446744073709551616) (hda:d∣a) (hdb:d∣b) {x y:List Nat}
  (hx:imgO a.l v t=some x) (hfx:fineB (some x)=true) (hy:imgO b.l v t=some y) (hfy:fineB (some y)=true) {n:Nat} (hs:shareO x y=some n):d.deg v+1<=n:=by
 obtain⟨r,hr,hp⟩:=pz_of (dvd_ne ha hda);have ix:=img_im hv ha hea hr hp hda hx hfx;have iy:=img_im hv hb heb hr hp hdb hy hfy
 have key:∃ l,Gd v (subs v t 4 (c r*d)) l/\l≠[]/\l.length=n:=by
  unfold shareO at hs;split at hs
  ·exact Gd.share hs iy.g ix.g iy.ne
  ·exact Gd.share hs ix.g iy.g ix.ne
 obtain⟨l,h1,h2,h3⟩:=key;have:=h1.len h2 ix.i ix.l;rw [ix.dg,h3] at this;omega
theorem boundGo_deg {v:Nat} (hv:v<4) {a b d:MP} (ha:a≠0) (hb:b≠0) (hea:∀ m∈a.l,∀ w,m.1.get w<18446744073709551616) (heb:∀ m∈b.l,∀ w,m.1.get w<18446744073709551616) (hda:d∣a) (hdb:d∣b) :
  ∀ {l:List Nat} {m:Int},boundGo a.l b.l v l=some m->d.deg v<=m
|[],m,h=>by
  simp only [boundGo,Option.some.injEq] at h;have h1:=dvd_deg ha hda v;have h2:=dvd_deg hb hdb v;have e1:a.deg v=degP a.l v:=rfl;have e2:b.deg v=degP b.l v:=rfl;omega
|k::l,m,h=>by
  rw [boundGo] at h;split at h
  ·rename_i x y hx hy;split at h
   ·rename_i hf;rw [Bool.and_eq_true] at hf
    cases hs:shareO x y with
   |none=>rw [hs] at h;cases h
   |some n =>
     rw [hs] at h;have h:some ((n:Int)-1)=some m:=h;have h:=Option.some.inj h;have:=share_deg hv ha hb hea heb hda hdb hx hf.1 hy hf.2 hs;omega
   ·exact boundGo_deg hv ha hb hea heb hda hdb h
  ·exact boundGo_deg hv ha hb hea heb hda hdb h
theorem restO_ex {b:List Nat} (hb:b≠[]) (ht:Tp b) (hm:∀ x∈b,x<pr):∀ (n:Nat) (r:List Nat),r.length<n->(∀ x∈r,x<pr)->∃ x,restO b (powm (b.getD (b.length-1) 0) (pr-2)) n r=some x/\x.length<b.length
|0,_,h,_=>by omega
|n+1,r,h,hr=>by
  rw [restO];have hb1:=List.length_pos_iff.2 hb;split
  ·rename_i hle;obtain⟨f,hf⟩:∃ f,f=r.getD (r.length - 1) 0*powm (b.getD (b.length - 1) 0) (pr - 2) % pr:=⟨_,rfl⟩;rw [<- hf]
   have hl:(strip (redTo b r f (r.length-b.length) b.length)).length<r.length:=by
    have h1:=strip_lt (l:=redTo b r f (r.length-b.length) b.length) (fun e=>by have:=redTo_ln b r f (r.length-b.length) b.length;rw [e] at this;simp at this;omega) (by
     rw [redTo_ln,redTo_get b.length (by omega),if_pos (by omega),show r.length - 1 - (r.length - b.length)=b.length - 1 by omega];have hb0:=ht hb;obtain⟨y,hy⟩:∃ y,y=b.getD (b.length - 1) 0:=⟨_,rfl⟩;have hyl:y<pr:=by rw [hy,List.getD_eq_getElem?_getD,List.getElem?_eq_getElem (by omega:b.length - 1<b.length)];exact hm _ (List.getElem_mem _)
     rw [<- hy] at hb0 hf ⊢;obtain⟨z,hz⟩:∃ z,z=r.getD (r.length - 1) 0:=⟨_,rfl⟩;rw [<- hz] at hf ⊢;have hi:=inv_pr (Nat.pos_of_ne_zero hb0) hyl;obtain⟨i,hi2⟩:∃ i,i=powm y (pr - 2):=⟨_,rfl⟩;rw [<- hi2] at hi hf;have c1:=Cg.mod (z*i);rw [<- hf] at c1;have c2:=Cg.mod (i*y);rw [hi] at c2
     have c3:Cg ((z+(pr-y)*f:Nat):Int) 0:=by
      rw [Int.natCast_add,Int.natCast_mul,Int.ofNat_sub (by omega)];obtain⟨k1,hk1⟩:=c1;obtain⟨k2,hk2⟩:=c2;rw [Int.natCast_mul] at hk1 hk2;refine⟨f - y*k1+z*k2,?_⟩;rw [pr_eq];have e1:(y:Int)*f=y*(z*i+2147483647*k1):=by rw [hk1]
      have e2:(z:Int)=z*(i*y+2147483647*k2):=by rw [<- hk2];omega
      grind
     exact Nat.mod_eq_zero_of_dvd (Int.ofNat_dvd.1 (by rw [pr_eq];exact c3.zero)))
    rw [redTo_ln] at h1;exact h1
   exact restO_ex hb ht hm n _ (by omega) (strip_lim (redTo_lim hr _))
  ·exact⟨r,rfl,by omega⟩
theorem Gd.tp_rest {b:List Nat} (inv:Nat):∀ {n:Nat} {r x:List Nat},restO b inv n r=some x->Tp r->(∀ y∈r,y<pr)->Tp x/\∀ y∈x,y<pr
|0,_,_,h,_,_=>by cases h
|n+1,r,x,h,hr,hm=>by
  rw [restO] at h;split at h
  ·exact Gd.tp_rest inv h (strip_tp _) (strip_lim (redTo_lim hm _))
  ·simp only [Option.some.injEq] at h;subst h;exact⟨hr,hm⟩
theorem shareGo_ex:∀ (n:Nat) (a b:List Nat),b.length<n->a.length<fuel->b.length<fuel->Tp a->Tp b->(∀ x∈a,x<pr)->(∀ x∈b,x<pr)->∃ k,shareGo n a b=some k
|0,_,_,h,_,_,_,_,_,_=>by omega
|n+1,a,b,h,ha,hb,ta,tb,ma,mb=>by
  rw [shareGo];split
  ·exact⟨_,rfl⟩
  ·rename_i hb0;obtain⟨x,hx,hxl⟩:=restO_ex hb0 tb mb fuel a ha ma;have hx2:=Gd.tp_rest _ hx ta ma;rw [hx];exact shareGo_ex n b x (by omega) hb (by omega) tb hx2.1 mb hx2.2
theorem imgO_ln {a:List Trm} {v t:Nat} {x:List Nat} (h:imgO a v t=some x):x.length=(degP a v+1).toNat:=by
 have key:∀ {l:List Trm} {out x:List Nat},imgGo v t l out=some x->x.length=out.length:=by
  intro l
  induction l with
 |nil=>intro out x h;simp only [imgGo,Option.some.injEq] at h;subst h;rfl
 |cons m l ih =>
   intro out x h;rw [imgGo] at h;split at h
   ·cases h
   ·rw [ih h,List.length_set]
 rw [key h,List.length_replicate]
theorem boundGo_ex {a b:List Trm} {v:Nat} (ha:degP a v+1<fuel) (hb:degP b v+1<fuel):∀ l,∃ m,boundGo a b v l=some m
|[]=>⟨_,rfl⟩
|k::l=>by
  rw [boundGo];split
  ·rename_i x y hx hy;split
   ·rename_i hf;rw [Bool.and_eq_true] at hf;have hx1:=imgO_ln hx;have hy1:=imgO_ln hy;have tx:Tp x:=fun _=>of_decide_eq_true hf.1;have ty:Tp y:=fun _=>of_decide_eq_true hf.2;have mx:∀ z∈x,z<pr:=imgGo_lim hx fun y hy=>by rw [(List.mem_replicate.1 hy).2];decide
    have my:∀ z∈y,z<pr:=imgGo_lim hy fun y hy=>by rw [(List.mem_replicate.1 hy).2];decide
    have hfu:0<fuel:=by decide
    have key:∃ n,shareO x y=some n:=by
     unfold shareO;split
     ·exact shareGo_ex fuel y x (by omega) (by omega) (by omega) ty tx my mx
     ·exact shareGo_ex fuel x y (by omega) (by omega) (by omega) tx ty mx my
    obtain⟨n,hn⟩:=key;rw [hn];exact⟨_,rfl⟩
   ·exact boundGo_ex ha hb l
  ·exact boundGo_ex ha hb l
end Q
end
section
namespace Q
open MP Go.Proofs.YtopclbeomcggiaaGreat
theorem psRun_len (D:List (List Trm)):∀ (f:Nat) (R:List (List Trm)),R.length<=D.length-1+f->(psRun D f R).length<=max (D.length-1) 0
|0,R,h=>by simp only [psRun];omega
|f+1,R,h=>by
  unfold psRun;by_cases hlt:D.length-1<R.length
  ·rw [if_pos hlt];exact psRun_len D f _ (by rw [psStep_len];omega)
  ·rw [if_neg hlt];omega
def FrA (v:Nat) (L:List (List Trm)):Prop:=∀ c∈L,∀ t∈c,t.1.get v=0
theorem FrA.get {v:Nat} {L:List (List Trm)} (h:FrA v L) (i:Nat):∀ t∈L.getD i [],t.1.get v=0:=by
 rw [List.getD_eq_getElem?_getD]
 cases hi:L[i]? with
|none=>intro t ht;cases ht
|some c=>exact h c (List.mem_of_getElem? hi)
theorem fr_mulP {v:Nat} {p q:List Trm} (hp:∀ t∈p,t.1.get v=0) (hq:∀ t∈q,t.1.get v=0):∀ t∈mulP p q,t.1.get v=0 :=
 canon_ex (P:=fun e=>e.get v=0) fun t ht=>by
  obtain⟨a,ha,b,hb,rfl⟩:=mem_prods ht;show (a.1.add b.1).get v=0;rw [Ex.get_add,hp a ha,hq b hb];rfl
theorem fr_subP {v:Nat} {p q:List Trm} (hp:∀ t∈p,t.1.get v=0) (hq:∀ t∈q,t.1.get v=0):∀ t∈subP p q,t.1.get v=0 :=
 canon_ex (P:=fun e=>e.get v=0) fun t ht=>by
  rcases List.mem_append.1 ht with h|h
  ·exact hp t h
  ·obtain⟨s,hs,rfl⟩:=scale_mem h;exact hq s hs
theorem psStep_fr {v:Nat} {D R:List (List Trm)} (hD:FrA v D) (hR:FrA v R):FrA v (psStep D R):=fun c hc=>by
 simp only [psStep,List.mem_map] at hc;obtain⟨i,-,rfl⟩:=hc;split
 ·exact fr_subP (fr_mulP (hR.get _) (hD.get _)) (fr_mulP (hR.get _) (hD.get _))
 ·exact fr_mulP (hR.get _) (hD.get _)
theorem psRun_fr {v:Nat} {D:List (List Trm)} (hD:FrA v D):∀ (f:Nat) (R:List (List Trm)),FrA v R->FrA v (psRun D f R)
|0,_,h=>h
|f+1,R,h=>by unfold psRun;split;exact psRun_fr hD f _ (psStep_fr hD h);exact h
theorem coeffs_fr (p:List Trm) (v:Nat):FrA v (coeffsP p v):=fun c hc t ht=>by
 obtain⟨n,rfl⟩:=mem_coeffsP hc;obtain⟨u,_,rfl⟩:=List.mem_map.1 ht;exact Ex.get_put _ _ _
theorem coeffs_vld {p:List Trm} (h:Vld p) (v:Nat):VldA (coeffsP p v):=fun c hc=>by
 obtain⟨n,rfl⟩:=mem_coeffsP hc;exact h.coeff v n
def prem (v:Nat) (a b:MP):MP:=⟨fromP (psRun (coeffsP b.l v) (coeffsP a.l v).length (coeffsP a.l v)) v,canon_val _⟩
theorem psO_eq {a b:MP} {v:Nat} {r:List Trm} (h:psO a.l b.l v=some r):r=(prem v a b).l/\b≠0:=by
 unfold psO at h;simp only at h;split at h
 ·rename_i hc;exact⟨(g1_some h).1,fun e=>hc.1 (by rw [e];rfl)⟩
 ·cases h
theorem ev_evl (x:Pt) (v:Nat) {L:List (List Trm)} (h:VldA L):ev x (fromP L v)=evl x v L:=ev_from x v fun c hc=>(h c hc).nat
theorem prem_spec {a b:MP} (hb:b≠0) (v:Nat):∃ (q:MP) (s:Nat),(b.lc v) ^ s*a=q*b+prem v a b/\(prem v a b).deg v<=b.deg v-1:=by
 have hD:=coeffs_vld b.v v;have hR:=coeffs_vld a.v v;have hbd:=deg_pos hb v;have hlen:(coeffsP b.l v).length=(b.deg v).toNat+1:=by rw [coeffsP_length];have e:degP b.l v=b.deg v:=rfl;omega
 have hle:(coeffsP a.l v).length<=(coeffsP b.l v).length-1+(coeffsP a.l v).length:=by omega
 refine⟨⟨psQuo v (coeffsP b.l v) (coeffsP a.l v).length (coeffsP a.l v),psQuo_vld _ _ _ _⟩,(coeffsP a.l v).length-((coeffsP b.l v).length-1),MP.ext' fun x=>?_,?_⟩
 ·have h:=evl_run x v hD (by omega) (coeffsP a.l v).length (coeffsP a.l v) hR hle;have ea:evl x v (coeffsP a.l v)=ev x a.l:=by rw [<- ev_evl x v hR,from_coeffs a.v]
  have eb:evl x v (coeffsP b.l v)=ev x b.l:=by rw [<- ev_evl x v hD,from_coeffs b.v]
  have er:evl x v (psRun (coeffsP b.l v) (coeffsP a.l v).length (coeffsP a.l v))=MP.ev x (prem v a b):=(ev_evl x v (psRun_vld _ _ _ hR)).symm
  have el:ev x ((coeffsP b.l v).getD ((coeffsP b.l v).length-1) [])=MP.ev x (b.lc v):=by
   rw [hlen,Nat.add_sub_cancel,coeffsP_get (by have e:degP b.l v=b.deg v:=rfl;omega)];rfl
  rw [ea,eb,er,el] at h;rw [MP.ev_add,MP.ev_mul,MP.ev_mul,MP.ev_pow];show _*ev x a.l=ev x (psQuo v (coeffsP b.l v) _ _)*ev x b.l+_;grind
 ·obtain⟨L,hL⟩:∃ L,L=psRun (coeffsP b.l v) (coeffsP a.l v).length (coeffsP a.l v):=⟨_,rfl⟩;have hl:=psRun_len (coeffsP b.l v) (coeffsP a.l v).length (coeffsP a.l v) hle;have hf:=psRun_fr (coeffs_fr b.l v) (coeffsP a.l v).length (coeffsP a.l v) (coeffs_fr a.l v);have hv:=psRun_vld (coeffsP b.l v) (coeffsP a.l v).length (coeffsP a.l v) hR
  have e:prem v a b=msum (fun i=>⟨(psRun (coeffsP b.l v) (coeffsP a.l v).length (coeffsP a.l v)).getD i [],hv.get i⟩*xk v i) (psRun (coeffsP b.l v) (coeffsP a.l v).length (coeffsP a.l v)).length:=MP.ext' fun x=>by
   rw [ev_msum];show ev x (fromP _ v)=_;rw [ev_from x v fun c hc=>(hv c hc).nat];refine rsum_congr fun i _=>?_;rw [MP.ev_mul,ev_xk];rfl
  rw [e];refine deg_msum (by omega) fun i hi=>?_;have h0:(⟨(psRun (coeffsP b.l v) (coeffsP a.l v).length (coeffsP a.l v)).getD i [],hv.get i⟩:MP).fr v:=fr_of (hf.get i);have h1:=deg_mul_le v _ (xk v i) h0 (Int.le_of_eq (deg_xk v i)) (by omega);omega
theorem divO_some {b g:List Trm} {gt:Trm} (hb:Vld b) (hg:b=gt::g):∀ {n:Nat} {a out res:List Trm},Vld a->NatL out->divO b gt n a out=some (some res)->NatL res/\∀ x,ev x res*ev x b=ev x out*ev x b+ev x a
|0,_,_,_,_,_,h=>by simp [divO] at h
|n+1,[],out,res,_,ho,h=>by
  simp only [divO,Option.some.injEq] at h;subst h;exact⟨ho,fun x=>by rw [ev_nil];grind⟩
|n+1,m::a,out,res,ha,ho,h=>by
  rw [divO] at h;split at h
  ·split at h
   ·rename_i hn;split at h
    ·have hq:NatL [quoT m gt]:=fun t ht=>by rw [List.mem_singleton.1 ht];exact hn
     obtain⟨h1,h2⟩:=divO_some hb hg (Vld.sub _ _) (ho.append hq) h;refine⟨h1,fun x=>?_⟩;rw [h2 x,ev_append,Q.ev_sub x ha.nat (Vld.mul _ _),Q.ev_mul x hb.nat hq];grind
    ·cases h
   ·cases h
  ·cases h
theorem divO_none {b g:List Trm} {gt:Trm} (hb:Vld b) (hg:b=gt::g):∀ {n:Nat} {a out:List Trm},Vld a->divO b gt n a out=some none->∀ q,Vld q->a≠mulP q b
|0,_,_,_,h=>by simp [divO] at h
|n+1,[],out,_,h=>by simp [divO] at h
|n+1,m::a,out,ha,h=>by
  intro q hq e;subst hg;have hz:=(hb.2 gt (by simp)).1
  cases q with
 |nil=>cases e
 |cons x s =>
   have hx:=hq.2 x (by simp);obtain⟨h1,h2⟩:=mul_top hq hb;obtain⟨a',ha'⟩:=head_is (Vld.mul _ _) (rmul_ne hx.1 hz) h1 h2;rw [ha'] at e;have em:m=(x.1.add gt.1,x.2*gt.2):=(List.cons.inj e).1;have hqm:quoT m gt=x:=by rw [em];exact quo_back hz
   have hnat:(m.1.sub gt.1).nat=true:=by
    have:(quoT m gt).1=x.1:=by rw [hqm]
    show (quoT m gt).1.nat=true;rw [this];exact hx.2
   rw [divO] at h;split at h
   ·split at h
    ·have h3:=sub_back hq hb Vld.nil;have e0:addP (mulP (x::s) (gt::g)) []=mulP (x::s) (gt::g):=ev_inj (Vld.add _ _) (Vld.mul _ _) fun y=>by rw [Q.ev_add y (Vld.mul _ _).nat NatL.nil,ev_nil];grind
     have e1:addP (mulP s (gt::g)) []=mulP s (gt::g):=ev_inj (Vld.add _ _) (Vld.mul _ _) fun y=>by rw [Q.ev_add y (Vld.mul _ _).nat NatL.nil,ev_nil];grind
     rw [e0,e1] at h3;refine divO_none hb rfl (Vld.sub _ _) h s hq.tail ?_;rw [hqm,e,<- ha',h3]
    ·cases h
   ·cases h
theorem overO_eq {a b q:MP} {r:List Trm} (hb:b≠0) (e:a=q*b) (h:overO a.l b.l=some r):r=q.l:=by
 obtain⟨t,l,hl⟩:=head_ex hb;unfold overO divW at h;rw [hl] at h;simp only at h;split at h
 ·rename_i o ho
  cases o with
 |none=>exact absurd (show a.l=mulP q.l (t::l) by rw [<- hl];exact congrArg MP.l e) (divO_none (hl ▸ b.v) rfl a.v ho q.l q.v)
 |some res =>
   obtain⟨h1,h2⟩:=divO_some (hl ▸ b.v) rfl a.v NatL.nil ho;obtain⟨h3,h4⟩:=g1_some h;have h3:r=res:=h3;subst h3;have hv:Vld r:=h4.val
   have:(⟨r,hv⟩:MP)*b=q*b:=MP.ext' fun x=>by
    rw [MP.ev_mul,<- e];have:=h2 x;rw [ev_nil,<- hl] at this;show ev x r*ev x b.l=ev x a.l;grind
   have h5:b*(⟨r,hv⟩:MP)=b*q:=by grind
   exact congrArg MP.l (MP.cancel hb h5)
 ·cases h
def hd (a:MP):Rat:=match a.l with
|[]=>0
|t::_=>t.2
def nrm (a:MP):MP:=c (1 / hd a)*a
theorem hd_ne {a:MP} (h:a≠0):hd a≠0:=by
 obtain⟨t,l,e⟩:=head_ex h;have:=(a.v.2 t (by rw [e];simp)).1;unfold hd;rw [e];exact this
theorem hd_cmul {r:Rat} (hr:r≠0) (a:MP):hd (c r*a)=hd a*r:=by
 unfold hd;rw [c_mul_l];show (match scaleP a.l r with|[]=>0|t::_=>t.2)=_;unfold scaleP;rw [if_neg hr]
 cases a.l with
|nil=>simp
|cons t l=>rfl
theorem hd_nrm {a:MP} (h:a≠0):hd (nrm a)=1:=by
 have h1:=hd_ne h
 have h2:(1:Rat) / hd a≠0:=fun e=>by
  have:=Rat.div_mul_cancel (a:=1) h1;rw [e] at this;grind
 rw [nrm,hd_cmul h2];have:=Rat.div_mul_cancel (a:=1) h1;grind
theorem nrm_zero:nrm 0=0:=by rw [nrm];grind
theorem nrm_dvd {a:MP} (h:a≠0):nrm a∣a/\a∣nrm a:=by
 have h1:=hd_ne h;refine⟨⟨c (hd a),?_⟩,⟨c (1 / hd a),by rw [nrm];grind⟩⟩;have h3:c (1 / hd a)*c (hd a)=1:=by rw [c_mul,Rat.div_mul_cancel h1];rfl
 rw [nrm];grind
theorem normO_eq {a:MP} {r:List Trm} (h:normO a.l=some r):r=(nrm a).l:=by
 cases e:a.l with
|nil =>
  rw [e] at h;simp only [normO,Option.some.injEq] at h;rw [zero_iff.2 e,nrm_zero,<- h];rfl
|cons t l =>
  rw [e] at h;simp only [normO] at h;rw [(g1_some h).1,nrm,c_mul_l];have:hd a=t.2:=by unfold hd;rw [e]
  rw [this];show _=scaleP a.l (1 / t.2);rw [e]
theorem nrm_eq {a b:MP} (ha:a≠0) (h1:a∣b) (h2:b∣a) (n1:hd a=1) (n2:hd b=1):a=b:=by
 obtain⟨u,rfl⟩:=h1;have hu:=unit_cancel ha h2;obtain⟨r,rfl⟩:=const_of (lo0_unit hu);have hr:r≠0:=fun e=>unit_ne hu (by rw [e];rfl);have e:a*c r=c r*a:=by grind
 rw [e,hd_cmul hr,n1] at n2;have:r=1:=by grind
 rw [this,c_one];grind
end Q
end
section
namespace Q
open MP Go.Proofs.YtopclbeomcggiaaGreat
structure NG (g a b:MP):Prop where
 i:IsGcd g a b
 n:g≠0->hd g=1
theorem oneP_eq:oneP=(1:MP).l:=by
 show [(e0,(1:Rat))]=constP ((1:Nat):Rat);rw [show ((1:Nat):Rat)=1 from rfl,constP,if_neg (by decide)]
theorem mul_cm (a b:MP):a*b=b*a:=by grind
theorem hd_one:hd 1=1:=by unfold hd;rw [<- oneP_eq];rfl
theorem isGcd_unit {a b:MP} (h:a.unit\/b.unit):IsGcd 1 a b :=
 ⟨unit_dvd unit_one a,unit_dvd unit_one b,fun d h1 h2=>h.elim (fun h=>unit_of_dvd h1 h) fun h=>unit_of_dvd h2 h⟩
theorem isGcd_nrm {g a b:MP} (h:IsGcd g a b) (h0:g≠0):IsGcd (nrm g) a b:=by
 obtain⟨h1,h2⟩:=nrm_dvd h0;exact⟨dvd_trans h1 h.l,dvd_trans h1 h.r,fun d x y=>dvd_trans (h.u d x y) h2⟩
theorem nrm_ne {g:MP} (h:g≠0):nrm g≠0:=dvd_ne h (nrm_dvd h).1
theorem isGcd_ne {g a b:MP} (h:IsGcd g a b) (h0:a≠0):g≠0:=dvd_ne h0 h.l
theorem constB_unit {g:MP} (h:constB g.l=true):g.unit:=by
 obtain⟨l,v⟩:=g
 cases l with
|nil=>cases h
|cons t l =>
  cases l with
 |cons _ _=>cases h
 |nil =>
   have he:t.1=e0:=of_decide_eq_true h
   have:(⟨[t],v⟩:MP)=c t.2:=MP.eq_of (by
    show [t]=constP t.2
    rw [constP,if_neg (v.2 t (by simp)).1,<- he])
   rw [this];exact c_unit (v.2 t (by simp)).1
def Gok (G:List Trm->List Trm->Option (List Trm)):Prop:=∀ (a b:MP) (r:List Trm),G a.l b.l=some r->∃ g:MP,r=g.l/\NG g a b
theorem allO_ok {G:List Trm->List Trm->Option (List Trm)} (hG:Gok G):∀ (L:List (List Trm)) (acc:MP) (r:List Trm),VldA L->(acc≠0->hd acc=1)->allO G acc.l L=some r ->
  ∃ g:MP,r=g.l/\g∣acc/\(∀ (f:MP),f.l∈L->g∣f)/\(∀ d,d∣acc->(∀ f:MP,f.l∈L->d∣f)->d∣g)/\(g≠0->hd g=1)
|[],acc,r,_,hn,h=>by
  simp only [allO,Option.some.injEq] at h;exact⟨acc,h.symm,dvd_refl _,fun f hf=>(by cases hf),fun d h _=>h,hn⟩
|a::L,acc,r,hv,hn,h=>by
  rw [allO] at h;have ha:Vld a:=hv a (by simp);split at h
  ·cases h
  ·rename_i g0 hg0;obtain⟨g,rfl,hg⟩:=hG acc ⟨a,ha⟩ g0 hg0;have hfa:∀ f:MP,f.l=a->f=⟨a,ha⟩:=fun f e=>MP.eq_of e;split at h
   ·rename_i hc;simp only [Option.some.injEq] at h;have hu:=constB_unit hc;refine⟨g,h.symm,hg.i.l,fun f _=>unit_dvd hu f,fun d h1 h2=>hg.i.u d h1 (h2 ⟨a,ha⟩ (by simp)),hg.n⟩
   ·obtain⟨k,e,k1,k2,k3,k4⟩:=allO_ok hG L g r (fun c hc=>hv c (by simp [hc])) hg.n h;refine⟨k,e,dvd_trans k1 hg.i.l,fun f hf=>?_,fun d h1 h2=>k3 d (hg.i.u d h1 (h2 ⟨a,ha⟩ (by simp))) fun f hf=>h2 f (by simp [hf]),k4⟩;rcases List.mem_cons.1 hf with e|hf
    ·rw [hfa f e];exact dvd_trans k1 hg.i.r
    ·exact k2 f hf
theorem contO_ok {G:List Trm->List Trm->Option (List Trm)} (hG:Gok G) {a:MP} {v:Nat} {r:List Trm} (h:contO G a.l v=some r):∃ g:MP,r=g.l/\IsCont v g a/\(g≠0->hd g=1):=by
 obtain⟨g,e,h1,h2,h3,h4⟩:=allO_ok hG _ (0:MP) r (coeffs_vld a.v v) (fun h=>absurd rfl h) h
 have hco:∀ n,g∣a.co v n:=fun n=>by
  rcases Nat.lt_or_ge n (degP a.l v+1).toNat with hn|hn
  ·refine h2 _ ?_;show coeffP a.l v n∈coeffsP a.l v;exact List.mem_map.2 ⟨n,List.mem_range.2 hn,rfl⟩
  ·rw [co_above (by have e:a.deg v=degP a.l v:=rfl;have:=deg_ge v a;omega)];exact dvd_zero g
 have hf:g.fr v:=by
  by_cases ha:a=0
  ·have:g=0:=by
    have h5:=h3 0 (dvd_refl 0) fun f hf=>by
     rw [ha] at hf;cases hf
    exact zero_dvd h5
   rw [this];exact fr_zero v
  ·exact fr_dvd (lc_ne ha v) (hco _) (lc_fr v a)
 refine⟨g,e,⟨hf,(dvd_iff_co hf a).2 hco,fun d hd hda=>h3 d (dvd_zero d) fun f hf=>?_⟩,h4⟩;obtain⟨n,hn⟩:=mem_coeffsP hf;have:f=a.co v n:=MP.eq_of hn;rw [this];exact (dvd_iff_co hd a).1 hda n
theorem primO_ok {G:List Trm->List Trm->Option (List Trm)} (hG:Gok G) {a:MP} {v:Nat} {r:List Trm} (h0:a≠0) (h:primO G a.l v=some r):∃ c q:MP,r=q.l/\a=c*q/\c≠0/\c.fr v/\q.prim v:=by
 obtain⟨t,l,hl⟩:=head_ex h0;unfold primO at h;rw [hl] at h;simp only at h;rw [<- hl] at h;split at h
 ·cases h
 ·rename_i c0 hc;obtain⟨g,rfl,hg,_⟩:=contO_ok hG hc;obtain⟨q,e,hq,hg0⟩:=cont_prim hg h0;exact⟨g,q,overO_eq (q:=q) hg0 (e.trans (mul_cm g q)) h,e,hg0,hg.f,hq⟩
theorem lc_pow_lo {v:Nat} (hv:v<4) {b:MP} (hb:b.lo (v+1)):∀ s:Nat,((b.lc v) ^ s).lo v
|0=>by
  have e:(b.lc v) ^ 0=1:=by grind
  rw [e];exact lo_one v
|s+1=>by
  have e:(b.lc v) ^ (s+1)=(b.lc v) ^ s*b.lc v:=by grind
  rw [e];exact lo_mul (lc_pow_lo hv hb s) (lo_lc hv hb)
theorem pow_ne {b:MP} (hb:b≠0):∀ s:Nat,b ^ s≠0
|0=>by
  have e:b ^ 0=1:=by grind
  rw [e];exact one_ne
|s+1=>by
  have e:b ^ (s+1)=b ^ s*b:=by grind
  rw [e];exact mul_ne (pow_ne hb s) hb
theorem lo_of_eq {n:Nat} {a b c:MP} (hb:b≠0) (hc:c≠0) (e:a=b*c) (h:a.lo n):c.lo n:=lo_dvd (by rw [e];exact mul_ne hb hc) (by rw [e];exact dvd_mul_left _ _) h
theorem nrm_lo {n:Nat} {a:MP} (h:a.lo n):(nrm a).lo n:=by
 by_cases h0:a=0
 ·rw [h0,nrm_zero];exact lo_zero n
 ·exact lo_dvd h0 (nrm_dvd h0).1 h
theorem prem_lo {v:Nat} (hv:v<4) {a b q:MP} {s:Nat} (e:(b.lc v) ^ s*a=q*b+prem v a b) (hb0:b≠0) (ha:a.lo (v+1)) (hb:b.lo (v+1)):(prem v a b).lo (v+1):=fun w h1 h2=>by
 -- the pseudo-remainder is made of the coefficients by ring operations
 have hA:∀ L:List (List Trm),(∀ c∈L,∀ t∈c,t.1.get w=0)->∀ D:List (List Trm),(∀ c∈D,∀ t∈c,t.1.get w=0)->∀ f,∀ c∈psRun D f L,∀ t∈c,t.1.get w=0:=fun L hL D hD f=>psRun_fr (v:=w) hD f L hL
 have hco:∀ p:MP,p.lo (v+1)->∀ c∈coeffsP p.l v,∀ t∈c,t.1.get w=0:=fun p hp c hc t ht=>by
  obtain⟨n,rfl⟩:=mem_coeffsP hc;obtain⟨u,hu,rfl⟩:=List.mem_map.1 ht;show (u.1.put v 0).get w=0;rw [Ex.get_put_ne _ hv h2 (by omega)];exact fr_get (hp w h1 h2) (List.mem_filter.1 hu).1
 have h3:=hA _ (hco a ha) _ (hco b hb) (coeffsP a.l v).length;refine fr_of ?_
 have hL:∀ (L:List (List Trm)) (i:Nat),(∀ c∈L,∀ t∈c,t.1.get w=0)->∀ t∈fromL v i L,t.1.get w=0:=fun L=>by
  induction L with
 |nil=>intro i _ t ht;cases ht
 |cons c L ih =>
   intro i h t ht;simp only [fromL,List.mem_append] at ht;rcases ht with ht|ht
   ·obtain⟨u,hu,rfl⟩:=List.mem_map.1 ht;show (u.1.put v _).get w=0;rw [Ex.get_put_ne _ hv h2 (by omega)];exact h c (by simp) u hu
   ·exact ih (i+1) (fun c hc=>h c (by simp [hc])) t (by simpa using ht)
 exact canon_ex (P:=fun e=>e.get w=0) (hL _ 0 h3)
theorem seqGo_ok {G:List Trm->List Trm->Option (List Trm)} (hG:Gok G) {v:Nat} (hv:v<4):∀ (n:Nat) (a b:MP) (r:List Trm),a.lo (v+1)->b.lo (v+1)->a.prim v->b.prim v->seqGo G v n a.l b.l=some r->∃ s:MP,r=s.l/\IsGcd s a b
|0,_,_,_,_,_,_,_,h=>by cases h
|n+1,a,b,r,la,lb,pa,pb,h=>by
  have HG:=hasGcd v (by omega);have b0:=prim_ne pb;have a0:=prim_ne pa;rw [seqGo] at h;obtain⟨q,s,e,hdeg⟩:=prem_spec (a:=a) b0 v;have hls:=lc_pow_lo hv lb s;have hls0:=pow_ne (lc_ne b0 v) s;have hlr:=prem_lo hv e b0 la lb;have hback:∀ d:MP,d.prim v->d∣b->d∣prem v a b->d∣a:=fun d pd h1 h2=>prim_dvd_of HG hv la pd hls hls0 (by rw [e];exact dvd_add (dvd_mul_of' h1 q) h2)
  have hrem:∀ d:MP,d∣a->d∣b->d∣prem v a b:=fun d h1 h2=>by
   have e2:prem v a b=(b.lc v) ^ s*a-q*b:=by rw [e];grind
   rw [e2];exact dvd_sub (dvd_mul_of' h1 _) (dvd_mul_of' h2 _)
  split at h
  ·cases h
  ·rename_i hp;have hz:=(psO_eq hp).1;simp only [Option.some.injEq] at h;have hz0:prem v a b=0:=zero_iff.2 hz.symm;exact⟨b,h.symm,hback b pb (dvd_refl b) (by rw [hz0];exact dvd_zero b),dvd_refl b,fun d _ h=>h⟩
  ·rename_i t l hp;have hz:=(psO_eq hp).1;have hz0:prem v a b≠0:=fun h0=>by rw [zero_iff.1 h0] at hz;cases hz
   split at h
   ·rename_i hd0;simp only [Option.some.injEq] at h;have hfr:(prem v a b).deg v=0:=by show degP (prem v a b).l v=0;rw [<- hz];exact hd0
    refine⟨1,by rw [<- h,oneP_eq],unit_dvd unit_one a,unit_dvd unit_one b,fun d h1 h2=>?_⟩;have hd:=dvd_deg hz0 (hrem d h1 h2) v;exact pb d (by show d.deg v<=0;omega) h2
   ·rw [hz] at h;split at h
    ·cases h
    ·rename_i p hpr;obtain⟨c,q',rfl,ec,c0,cf,hq⟩:=primO_ok hG hz0 hpr;split at h
     ·cases h
     ·rename_i k hk;have hk:=normO_eq hk;subst hk;have q0:=prim_ne hq;have lq:=lo_of_eq c0 q0 ec hlr;obtain⟨nd1,nd2⟩:=nrm_dvd q0;obtain⟨x,ex,hx⟩:=seqGo_ok hG hv n b (nrm q') r lb (nrm_lo lq) pb (prim_dvd hq nd1) h;have lc':c.lo v:=lo_of_fr (lo_dvd hz0 (by rw [ec];exact dvd_mul_right _ _) hlr) cf;refine⟨x,ex,hback x (prim_dvd pb hx.l) hx.l ?_,hx.l,fun d h1 h2=>hx.u d h2 (dvd_trans ?_ nd2)⟩
      ·rw [ec];exact dvd_mul_of' (dvd_trans hx.r nd1) c
      ·exact prim_dvd_of HG hv lq (prim_dvd pb h2) lc' c0 (by rw [<- ec];exact hrem d h1 h2)
theorem seqS_ok {G:List Trm->List Trm->Option (List Trm)} (hG:Gok G) {v:Nat} (hv:v<4) {a b:MP} {r:List Trm} (wa:Wp a.l) (wb:Wp b.l) (la:a.lo (v+1)) (lb:b.lo (v+1)) (pa:a.prim v) (pb:b.prim v) (h:seqS G a.l b.l v=some r):∃ s:MP,r=s.l/\IsGcd s a b:=by
 have a0:=prim_ne pa;have b0:=prim_ne pb;have hex:∀ p:MP,Wp p.l->∀ m∈p.l,∀ w,m.1.get w<18446744073709551616:=fun p hp m hm w=>by have:=(hp.exps hm w).2;omega
 unfold seqS at h;split at h
 ·cases h
 ·rename_i m hm;have hbd:∀ d:MP,d∣a->d∣b->d.deg v<=m:=fun d h1 h2=>boundGo_deg hv a0 b0 (hex a wa) (hex b wb) h1 h2 hm;split at h
  ·rename_i hm0;simp only [Option.some.injEq] at h;refine⟨1,by rw [<- h,oneP_eq],unit_dvd unit_one a,unit_dvd unit_one b,fun d h1 h2=>pa d (by have:=hbd d h1 h2;show d.deg v<=0;omega) h1⟩
  ·split at h
   ·cases h
   ·rename_i o ho;split at h
    ·rename_i hc;simp only [Option.some.injEq] at h;rw [Bool.and_eq_true] at hc
     cases o with
    |none=>cases hc.1
    |some res =>
      obtain⟨t,l,hl⟩:=head_ex b0;have ho':=ho;unfold divW at ho';rw [hl] at ho';simp only at ho';obtain⟨h1,h2⟩:=divO_some (hl ▸ b.v) rfl a.v NatL.nil ho'
      have hd:b∣a:=by
       refine⟨⟨canon res,canon_val _⟩,MP.ext' fun x=>?_⟩;have:=h2 x;rw [ev_nil,<- hl] at this;rw [MP.ev_mul];show ev x a.l=ev x b.l*ev x (canon res);rw [ev_canon h1];grind
      exact⟨b,h.symm,hd,dvd_refl b,fun d _ h=>h⟩
    ·exact seqGo_ok hG hv _ a b r la lb pa pb h
theorem isGcd_swap {g a b:MP} (h:IsGcd g a b):IsGcd g b a:=⟨h.r,h.l,fun d x y=>h.u d y x⟩
theorem seqO_ok {G:List Trm->List Trm->Option (List Trm)} (hG:Gok G) {v:Nat} (hv:v<4) {a b:MP} {r:List Trm} (wa:Wp a.l) (wb:Wp b.l) (la:a.lo (v+1)) (lb:b.lo (v+1)) (pa:a.prim v) (pb:b.prim v) (h:seqO G a.l b.l v=some r):∃ s:MP,r=s.l/\IsGcd s a b:=by
 unfold seqO at h;split at h
 ·obtain⟨s,e,hs⟩:=seqS_ok hG hv wb wa lb la pb pa h;exact⟨s,e,isGcd_swap hs⟩
 ·exact seqS_ok hG hv wa wb la lb pa pb h
theorem highN_ok (a b:MP):∀ (n:Nat),n<=4->(∀ w,n<=w->w<4->a.fr w/\b.fr w)->∀ v,highN [a.l,b.l] n=some v->v<4/\a.lo (v+1)/\b.lo (v+1)
|0,_,_,v,h=>by cases h
|n+1,hn,hf,v,h=>by
  rw [highN] at h;split at h
  ·simp only [Option.some.injEq] at h;subst h;exact⟨by omega,fun w h1 h2=>(hf w h1 h2).1,fun w h1 h2=>(hf w h1 h2).2⟩
  ·rename_i hc;refine highN_ok a b n (by omega) (fun w h1 h2=>?_) v h;rcases Nat.eq_or_lt_of_le h1 with e|hlt
   ·subst e;simp only [List.any_cons,List.any_nil,Bool.or_false,Bool.or_eq_true,decide_eq_true_eq,not_or] at hc;exact⟨by show degP a.l n<=0;omega,by show degP b.l n<=0;omega⟩
   ·exact hf w hlt h2
theorem overO_wp {a b r:List Trm} (h:overO a b=some r):Wp r:=by
 unfold overO at h;split at h
 ·have:=g1_some h;rw [this.1];exact this.2
 ·cases h
theorem bind2_sm {α β:Type} {o:Option α} {f:α->Option β} {y:β} (h:bind2 o f=some y):∃ x,o=some x/\f x=some y:=by
 cases o with
|none=>cases h
|some x=>exact⟨x,rfl,h⟩
theorem gcdS_ok {G:List Trm->List Trm->Option (List Trm)} (hG:Gok G):Gok (gcdS G):=fun a b r h=>by
 unfold gcdS at h;split at h
 ·rename_i ha;have ha:=zero_iff.2 ha;refine⟨nrm b,normO_eq h,?_,fun hne=>hd_nrm fun h0=>hne (by rw [h0,nrm_zero])⟩;by_cases hb:b=0
  ·rw [hb,nrm_zero,ha];exact⟨dvd_refl _,dvd_refl _,fun d h _=>h⟩
  ·exact⟨by rw [ha];exact dvd_zero _,(nrm_dvd hb).1,fun d _ h=>dvd_trans h (nrm_dvd hb).2⟩
 ·rename_i ha;have a0:a≠0:=fun h=>ha (zero_iff.1 h);split at h
  ·rename_i hb;have hb:=zero_iff.2 hb;exact⟨nrm a,normO_eq h,⟨(nrm_dvd a0).1,by rw [hb];exact dvd_zero _,fun d h _=>dvd_trans h (nrm_dvd a0).2⟩,fun _=>hd_nrm a0⟩
  ·rename_i hb;have b0:b≠0:=fun h=>hb (zero_iff.1 h);split at h
   ·rename_i hc;simp only [Option.some.injEq] at h;exact⟨1,by rw [<- h,oneP_eq],isGcd_unit (hc.imp constB_unit constB_unit),fun _=>hd_one⟩
   ·obtain⟨v,hv,h⟩:=bind2_sm h;obtain⟨v4,la,lb⟩:=highN_ok a b 4 (by omega) (fun w h1 h2=>by omega) v hv;have HG:=hasGcd v (by omega);split at h
    ·rename_i hd;obtain⟨c,hc,h⟩:=bind2_sm h;obtain⟨k,rfl,hk,_⟩:=contO_ok hG hc;obtain⟨g,e,hg⟩:=hG k b r h;have hbf:b.fr v:=Int.le_of_eq hd;exact⟨g,e,⟨dvd_trans hg.i.l hk.d,hg.i.r,fun d h1 h2=>hg.i.u d (hk.u d (fr_dvd b0 h2 hbf) h1) h2⟩,hg.n⟩
    ·split at h
     ·rename_i hd;obtain⟨c,hc,h⟩:=bind2_sm h;obtain⟨k,rfl,hk,_⟩:=contO_ok hG hc;obtain⟨g,e,hg⟩:=hG a k r h;have haf:a.fr v:=Int.le_of_eq hd;exact⟨g,e,⟨hg.i.l,dvd_trans hg.i.r hk.d,fun d h1 h2=>hg.i.u d h1 (hk.u d (fr_dvd a0 h1 haf) h2)⟩,hg.n⟩
     ·obtain⟨x0,hx,h⟩:=bind2_sm h;obtain⟨y0,hy,h⟩:=bind2_sm h;obtain⟨g0,hg0,h⟩:=bind2_sm h;obtain⟨p0,hp,h⟩:=bind2_sm h;obtain⟨q0,hq,h⟩:=bind2_sm h;obtain⟨s0,hs,h⟩:=bind2_sm h;obtain⟨m0,hm,h⟩:=bind2_sm h;obtain⟨x,rfl,ix,_⟩:=contO_ok hG hx;obtain⟨y,rfl,iy,_⟩:=contO_ok hG hy;obtain⟨g,rfl,hg⟩:=hG x y _ hg0;obtain⟨p,ep,pp,x00⟩:=cont_prim ix a0;obtain⟨q,eq,pq,y00⟩:=cont_prim iy b0;have wp0:=overO_wp hp;have wq0:=overO_wp hq;have e1:=overO_eq (q:=p) x00 (ep.trans (mul_cm x p)) hp;have e2:=overO_eq (q:=q) y00 (eq.trans (mul_cm y q)) hq;subst e1;subst e2;have lp:=lo_of_eq x00 (prim_ne pp) ep la;have lq:=lo_of_eq y00 (prim_ne pq) eq lb;obtain⟨s,rfl,hsg⟩:=seqO_ok hG v4 wp0 wq0 lp lq pp pq hs;have hm:m0=(g*s).l:=(g1_some hm).1;subst hm;have lx:x.lo v:=lo_of_fr (lo_dvd a0 (by rw [ep];exact dvd_mul_right _ _) la) ix.f;have ly:y.lo v:=lo_of_fr (lo_dvd b0 (by rw [eq];exact dvd_mul_right _ _) lb) iy.f
      have hall:IsGcd (g*s) a b:=by
       refine⟨by rw [ep];exact mul_dvd hg.i.l hsg.l,by rw [eq];exact mul_dvd hg.i.r hsg.r,fun d h1 h2=>?_⟩;have d0:=dvd_ne a0 h1;obtain⟨e,z,rfl,he,e0',pz',lz,_⟩:=split_prim HG v4 (lo_dvd a0 h1 la) d0;have hef:e.fr v:=he v (Nat.le_refl _) v4;refine mul_dvd (hg.i.u e ?_ ?_) (hsg.u z ?_ ?_)
       ·exact ix.u e hef (dvd_trans (dvd_mul_right _ _) h1)
       ·exact iy.u e hef (dvd_trans (dvd_mul_right _ _) h2)
       ·exact prim_dvd_of HG v4 lp pz' lx x00 (by rw [<- ep];exact dvd_trans (dvd_mul_left _ _) h1)
       ·exact prim_dvd_of HG v4 lq pz' ly y00 (by rw [<- eq];exact dvd_trans (dvd_mul_left _ _) h2)
      have hne:=isGcd_ne hall a0;exact⟨nrm (g*s),normO_eq h,isGcd_nrm hall hne,fun _=>hd_nrm hne⟩
end Q
end
section
namespace Q
open MP
theorem hd_eq {a:MP} {t:Trm} {l:List Trm} (h:a.l=t::l):hd a=t.2:=by unfold hd;rw [h]
theorem hd_mul {a b:MP} (ha:a≠0) (hb:b≠0):hd (a*b)=hd a*hd b:=by
 obtain⟨s,l,hs⟩:=head_ex ha;obtain⟨t,r,ht⟩:=head_ex hb;have va:Vld (s::l):=hs ▸ a.v;have vb:Vld (t::r):=ht ▸ b.v;obtain⟨h1,h2⟩:=mul_top va vb;have hz:=rmul_ne (va.2 s (by simp)).1 (vb.2 t (by simp)).1;obtain⟨m,hm⟩:=head_is (Vld.mul _ _) hz h1 h2;have e:(a*b).l=mulP (s::l) (t::r):=by show mulP a.l b.l=_;rw [hs,ht]
 rw [hd_eq (e.trans hm),hd_eq hs,hd_eq ht]
theorem NG.comm {g a b:MP} (h:NG g a b):NG g b a:=⟨isGcd_swap h.i,h.n⟩
theorem NG.assoc {g h k a b d:MP} (h1:NG g a b) (h2:NG h b d) (h3:NG k g d):NG k a h :=
 ⟨⟨dvd_trans h3.i.l h1.i.l,h2.i.u k (dvd_trans h3.i.l h1.i.r) h3.i.r,fun x hx hy=>h3.i.u x (h1.i.u x hx (dvd_trans hy h2.i.l)) (dvd_trans hy h2.i.r)⟩,h3.n⟩
theorem NG.self {a:MP}:NG (nrm a) a a:=by
 by_cases h:a=0
 ·rw [h,nrm_zero];exact⟨⟨dvd_refl _,dvd_refl _,fun d h _=>h⟩,fun h=>absurd rfl h⟩
 ·exact⟨⟨(nrm_dvd h).1,(nrm_dvd h).1,fun d h' _=>dvd_trans h' (nrm_dvd h).2⟩,fun _=>hd_nrm h⟩
theorem NG.fac {g k a b d:MP} (h:NG g a b) (hk:NG k (a*d) (b*d)):k=nrm d*g:=by
 by_cases hd0:d=0
 ·have e1:k=0:=by
   have:=hk.i.u 0 (by rw [hd0];exact⟨1,by grind⟩) (by rw [hd0];exact⟨1,by grind⟩);exact zero_dvd this
  rw [e1,hd0,nrm_zero];grind
 by_cases hg0:g=0
 ·have ha:a=0:=zero_dvd (hg0 ▸ h.i.l);have hb:b=0:=zero_dvd (hg0 ▸ h.i.r)
  have e1:k=0:=by
   have:=hk.i.u 0 (by rw [ha];exact⟨1,by grind⟩) (by rw [hb];exact⟨1,by grind⟩);exact zero_dvd this
  rw [e1,hg0];grind
 obtain⟨n1,n2⟩:=nrm_dvd hd0;have e1:nrm d*g∣k:=hk.i.u _ (by rw [mul_cm a d];exact mul_dvd n1 h.i.l) (by rw [mul_cm b d];exact mul_dvd n1 h.i.r);obtain⟨u,hu⟩:=hk.i.u d (dvd_mul_left d a) (dvd_mul_left d b);have hug:u∣g:=h.i.u u (dvd_cancel hd0 (by rw [<- hu,mul_cm d a];exact hk.i.l)) (dvd_cancel hd0 (by rw [<- hu,mul_cm d b];exact hk.i.r));have e2:k∣nrm d*g:=by rw [hu];exact mul_dvd n2 hug
 have hne:nrm d*g≠0:=mul_ne (nrm_ne hd0) hg0;have k0:k≠0:=fun e=>hne (by rw [e] at e2;exact zero_dvd e2);exact nrm_eq k0 e2 e1 (hk.n k0) (by rw [hd_mul (nrm_ne hd0) hg0,hd_nrm hd0,h.n hg0];exact Rat.mul_one 1)
def NC (v:Nat) (g a:MP):Prop:=IsCont v g a/\(g≠0->hd g=1)
end Q
end
section
namespace Q
open MP Go.Proofs.YtopclbeomcggiaaGreat
structure Ind (D H:Nat) (p:MP):Prop where
 d:p.dv D
 a:(D:Rat)*p.am<=(H:Rat)
def In (b:Nat) (p:MP):Prop:=∃ D H,0<D/\D<=2 ^ b/\H<=2 ^ b/\Ind D H p
theorem nr_nonneg (n:Nat):(0:Rat)<=(n:Rat):=Rat.natCast_nonneg
theorem nr_le {m n:Nat} (h:m<=n):(m:Rat)<=(n:Rat):=Rat.natCast_le_natCast.2 h
theorem Ind.mono {D H H':Nat} {p:MP} (h:Ind D H p) (hH:H<=H'):Ind D H' p:=⟨h.d,Rat.le_trans h.a (nr_le hH)⟩
theorem Ind.mul {D H D' H':Nat} {p q:MP} (h:Ind D H p) (h':Ind D' H' q):Ind (D*D') (H*H') (p*q):=by
 refine⟨dv_mul h.d h'.d,?_⟩;have h1:=Rat.mul_le_mul_of_nonneg_left (am_mul p q) (nr_nonneg (D*D'));have h2:=rmul_le h.a h'.a (Rat.mul_nonneg (nr_nonneg D) p.am_nonneg) (nr_nonneg H');rw [Rat.natCast_mul] at h1 ⊢;rw [Rat.natCast_mul];grind
theorem Ind.sub {D H H':Nat} {p q:MP} (h:Ind D H p) (h':Ind D H' q):Ind D (H+H') (p-q):=by
 refine⟨dv_sub h.d h'.d,?_⟩;have h1:=Rat.mul_le_mul_of_nonneg_left (am_sub p q) (nr_nonneg D);have h2:=h.a;have h3:=h'.a;rw [Rat.natCast_add];grind
theorem Ind.up {D H:Nat} {p:MP} (h:Ind D H p) (K:Nat):Ind (D*K) (H*K) p:=by
 refine⟨dv_mono (Nat.dvd_mul_right _ _) h.d,?_⟩;have:=Rat.mul_le_mul_of_nonneg_right h.a (nr_nonneg K);rw [Rat.natCast_mul,Rat.natCast_mul];grind
theorem am_co (v n:Nat) (p:MP):(p.co v n).am<=p.am:=by
 have e:asum (coeffP p.l v n)=asum (p.l.filter fun t=>t.1.get v=(n:Int)):=by
  unfold coeffP;generalize p.l.filter _=l
  induction l with
 |nil=>rfl
 |cons u l ih=>simp only [List.map_cons,asum,ih]
 show asum (coeffP p.l v n)<=asum p.l;rw [e]
 have h2:∀ l:List Trm,asum (l.filter fun t=>t.1.get v=(n:Int))<=asum l:=fun l=>by
  induction l with
 |nil=>exact Rat.le_refl
 |cons t l ih =>
   have:=rabs_nonneg t.2;rw [List.filter_cons];split <;> simp only [asum] <;> grind
 exact h2 p.l
theorem Ind.co {D H:Nat} {p:MP} (h:Ind D H p) (v n:Nat):Ind D H (p.co v n) :=
 ⟨co_dv h.d v n,Rat.le_trans (Rat.mul_le_mul_of_nonneg_left (am_co v n p) (nr_nonneg D)) h.a⟩
theorem asum_sublist {l r:List Trm} (h:r.Sublist l):asum r<=asum l:=by
 induction h with
|slnil=>exact Rat.le_refl
|cons t _ ih=>have:=rabs_nonneg t.2;simp only [asum];grind
|cons_cons t _ ih=>simp only [asum];grind
theorem Ind.part {D H:Nat} {p q:MP} (h:Ind D H p) (hs:q.l.Sublist p.l):Ind D H q :=
 ⟨fun t ht=>h.d t (hs.subset ht),Rat.le_trans (Rat.mul_le_mul_of_nonneg_left (asum_sublist hs) (nr_nonneg D)) h.a⟩
theorem Ind.zero (D H:Nat):Ind D H 0:=⟨dv_zero D,by rw [am_zero,Rat.mul_zero];exact nr_nonneg H⟩
namespace In
variable {b c:Nat} {p q:MP}
theorem mono (h:In b p) (hb:b<=c):In c p:=by
 obtain⟨D,H,h1,h2,h3,h4⟩:=h;have:=Nat.pow_le_pow_right (show 0<2 by omega) hb;exact⟨D,H,h1,by omega,by omega,h4⟩
theorem mul (h:In b p) (h':In c q):In (b+c) (p*q):=by
 obtain⟨D,H,h1,h2,h3,h4⟩:=h;obtain⟨D',H',k1,k2,k3,k4⟩:=h';refine⟨D*D',H*H',Nat.mul_pos h1 k1,?_,?_,h4.mul k4⟩
 ·rw [Nat.pow_add];exact Nat.mul_le_mul h2 k2
 ·rw [Nat.pow_add];exact Nat.mul_le_mul h3 k3
theorem co (h:In b p) (v n:Nat):In b (p.co v n):=by
 obtain⟨D,H,h1,h2,h3,h4⟩:=h;exact⟨D,H,h1,h2,h3,h4.co v n⟩
theorem part (h:In b p) (hs:q.l.Sublist p.l):In b q:=by
 obtain⟨D,H,h1,h2,h3,h4⟩:=h;exact⟨D,H,h1,h2,h3,h4.part hs⟩
theorem zero (b:Nat):In b 0:=⟨1,1,by omega,Nat.one_le_two_pow,Nat.one_le_two_pow,Ind.zero 1 1⟩
theorem one (b:Nat):In b 1:=⟨1,1,by omega,Nat.one_le_two_pow,Nat.one_le_two_pow,dv_one 1,by rw [am_one,Rat.mul_one];exact Rat.le_refl⟩
end In
theorem hd_mem {p:MP} (h:p≠0):∃ t∈p.l,hd p=t.2:=by
 obtain⟨t,l,e⟩:=head_ex h;exact⟨t,by rw [e];simp,hd_eq e⟩
theorem hd_am {p:MP} (h:p≠0):rabs (hd p)<=p.am:=by
 obtain⟨t,ht,e⟩:=hd_mem h;rw [e];exact asum_mem ht
theorem Ind.hd {D H:Nat} {p:MP} (h:Ind D H p) (h0:p≠0):Ind D H (c (Q.hd p)):=by
 obtain⟨t,ht,e⟩:=hd_mem h0;refine⟨dv_c (by rw [e];exact h.d t ht),?_⟩;rw [am_c];exact Rat.le_trans (Rat.mul_le_mul_of_nonneg_left (hd_am h0) (nr_nonneg D)) h.a
theorem In.hd {b:Nat} {p:MP} (h:In b p) (h0:p≠0):In b (c (Q.hd p)):=by
 obtain⟨D,H,h1,h2,h3,h4⟩:=h;exact⟨D,H,h1,h2,h3,h4.hd h0⟩
theorem hd_div {p:MP} (h:p≠0):hd p*(1 / hd p)=1:=by
 have:=Rat.div_mul_cancel (a:=1) (hd_ne h);grind
theorem Ind.nrm {D H:Nat} {p:MP} (h4:Ind D H p) (h1:0<D) (h0:p≠0):∃ z:Nat,0<z/\(z:Rat)=(D:Rat)*rabs (Q.hd p)/\z<=H/\Ind z H (Q.nrm p):=by
 obtain⟨z,hz⟩:∃ z:Int,Q.hd p*(D:Rat)=(z:Rat):=by
  obtain⟨t,ht,e⟩:=hd_mem h0;rw [e];exact h4.d t ht
 have hD0:(D:Rat)≠0:=nat_ne h1;have hh:=hd_ne h0;have hd1:=hd_div h0
 have hz0:z≠0:=fun e=>by
  rw [e] at hz;exact rmul_ne hh hD0 hz
 have hrz:((z.natAbs:Nat):Rat)=rabs (z:Rat):=(Q.rabs_int z).symm;have e2:rabs (z:Rat)=(D:Rat)*rabs (Q.hd p):=by rw [<- hz,rabs_mul,rabs_of_pos (nr_nonneg D)];grind
 have hzH:z.natAbs<=H:=by
  have e1:=Rat.mul_le_mul_of_nonneg_left (hd_am h0) (nr_nonneg D);have e3:((z.natAbs:Nat):Rat)<=(H:Rat):=by rw [hrz,e2];exact Rat.le_trans e1 h4.a
  exact Rat.natCast_le_natCast.1 e3
 refine⟨z.natAbs,by omega,by rw [hrz,e2],hzH,?_,?_⟩
 ·intro t ht;obtain⟨s,hs,rfl⟩:=cmul_mem ht;obtain⟨k,hk⟩:=h4.d s hs;have e4:s.2*(1 / Q.hd p)*(z:Rat)=(k:Rat):=by rw [<- hz,<- hk];grind
  rcases Int.natAbs_eq z with e|e
  ·refine⟨k,?_⟩;show s.2*(1 / Q.hd p)*((z.natAbs:Nat):Rat)=k;rw [<- Rat.intCast_natCast,<- e];exact e4
  ·refine⟨-k,?_⟩;show s.2*(1 / Q.hd p)*((z.natAbs:Nat):Rat)=_;rw [<- Rat.intCast_natCast,show ((z.natAbs:Nat):Int)=-z by omega,Rat.intCast_neg,Rat.intCast_neg,<- e4];grind
 ·show _*(c (1 / Q.hd p)*p).am<=_;rw [am_cmul,hrz,<- hz,rabs_mul,rabs_of_pos (nr_nonneg D)];have e5:rabs (Q.hd p)*rabs (1 / Q.hd p)=1:=by rw [<- rabs_mul,hd1];exact rabs_one
  have:rabs (Q.hd p)*(D:Rat)*(rabs (1 / Q.hd p)*p.am)=(rabs (Q.hd p)*rabs (1 / Q.hd p))*((D:Rat)*p.am):=by grind
  rw [this,e5,Rat.one_mul];exact h4.a
theorem In.nrm {b:Nat} {p:MP} (h:In b p):In b (Q.nrm p):=by
 by_cases h0:p=0
 ·rw [h0,nrm_zero];exact In.zero b
 obtain⟨D,H,h1,h2,h3,h4⟩:=h;obtain⟨z,z1,-,z3,z4⟩:=h4.nrm h1 h0;exact⟨z,H,z1,by omega,h3,z4⟩
theorem nrm_cmul {r:Rat} (hr:r≠0) (f:MP):nrm (c r*f)=nrm f:=by
 by_cases h:f=0
 ·have e:c r*f=0:=by rw [h];grind
  rw [e,h]
 have h1:=hd_ne h;have h2:hd f*r≠0:=rmul_ne h1 hr;rw [nrm,nrm,hd_cmul hr]
 have e:(1:Rat) / (hd f*r)*r=1 / hd f:=by
  have e1:=Rat.div_mul_cancel (a:=1) h2;have e2:=Rat.div_mul_cancel (a:=1) h1;have e3:(1:Rat) / (hd f*r)*r*hd f=1 / hd f*hd f:=by grind
  have e4:((1:Rat) / (hd f*r)*r-1 / hd f)*hd f=0:=by grind
  rcases Rat.mul_eq_zero.1 e4 with h|h
  ·grind
  ·exact absurd h h1
 rw [<- e,<- c_mul];grind
def Dg (d:Nat->Nat) (p:MP):Prop:=∀ w,w<4->p.deg w<=d w
theorem Dg.mono {d e:Nat->Nat} {p:MP} (h:Dg d p) (hd:∀ w,d w<=e w):Dg e p:=fun w hw=>by have:=h w hw;have:=hd w;omega
theorem Dg.dvd {d:Nat->Nat} {p q:MP} (h:Dg d p) (h0:p≠0) (hq:q∣p):Dg d q:=fun w hw=>Int.le_trans (dvd_deg h0 hq w) (h w hw)
theorem deg_cmul {r:Rat} (hr:r≠0) {p:MP} (h:p≠0) (w:Nat):(c r*p).deg w=p.deg w:=by
 rw [deg_mul (c_ne hr) h];have h1:=deg_pos (c_ne hr) w;have h2:(c r).deg w<=0:=fr_c r w;omega
theorem cmul_dvd {r:Rat} (hr:r≠0) (p:MP):c r*p∣p/\p∣c r*p:=by
 refine⟨⟨c r⁻¹,?_⟩,⟨c r,by grind⟩⟩;have h:c r*c r⁻¹=1:=by rw [c_mul,Rat.mul_inv_cancel _ hr];rfl
 grind
theorem In.fac {b k n:Nat} {a f:MP} {d:Nat->Nat} (hn:n<=4) (h:In b a) (h0:a≠0) (hf:f∣a) (hl:a.lo n) (hd:Dg d a) (hk:facK d n<=2 ^ k):In (b+k) (Q.nrm f):=by
 obtain⟨D,H,h1,h2,h3,h4⟩:=h;obtain⟨g,eg⟩:=hf;have f0:f≠0:=fun e=>h0 (by rw [eg,e];grind);obtain⟨r,hr,hp⟩:=pz_of f0;have hD0:(D:Rat)≠0:=nat_ne h1
 have e:c (D:Rat)*a=(c r*f)*(c ((D:Rat)*r⁻¹)*g):=by
  have h5:c r*c ((D:Rat)*r⁻¹)=c (D:Rat):=by rw [c_mul];congr 1;have:=Rat.mul_inv_cancel _ hr;grind
  rw [eg,<- h5];grind
 have iP:(c (D:Rat)*a).dv 1:=dv_clear h4.d;have iH:=gaussZ iP hp e;have hP0:c (D:Rat)*a≠0:=mul_ne (c_ne hD0) h0;have hf2:=MP.fac d n hn _ _ _ e hP0 hp.1 iH (lo_dvd h0 (cmul_dvd hD0 a).1 hl) fun w hw=>by rw [deg_cmul hD0 h0];exact hd w (by omega)
 rw [am_cmul (D:Rat) a,rabs_of_pos (nr_nonneg D)] at hf2
 have h6:In (b+k) (c r*f):=by
  refine⟨1,2 ^ (b+k),by omega,Nat.one_le_two_pow,Nat.le_refl _,hp.1,?_⟩;have e1:((1:Nat):Rat)=1:=rfl;rw [e1,Rat.one_mul]
  have h7:(facK d n:Rat)*((D:Rat)*a.am)<=((2 ^ k:Nat):Rat)*((2 ^ b:Nat):Rat) :=
   rmul_le (nr_le hk) (Rat.le_trans h4.a (nr_le h3)) (nr_nonneg _) (nr_nonneg _)
  rw [<- Rat.natCast_mul,<- Nat.pow_add,Nat.add_comm] at h7;exact Rat.le_trans hf2 h7
 have:=h6.nrm;rwa [nrm_cmul hr] at this
theorem nrm_back {p:MP} (h:p≠0):p=c (hd p)*nrm p:=by
 have h1:c (hd p)*c (1 / hd p)=1:=by rw [c_mul,hd_div h];rfl
 rw [nrm];grind
theorem In.quot {b k n:Nat} {a q z:MP} {d:Nat->Nat} (hn:n<=4) (h:In b a) (h0:a≠0) (e:a=q*z) (hz:Q.hd z=1) (hl:a.lo n) (hd:Dg d a) (hk:facK d n<=2 ^ k):In (b+(b+k)) q:=by
 have q0:q≠0:=fun h=>h0 (by rw [e,h];grind);have z0:z≠0:=fun h=>h0 (by rw [e,h];grind);have e1:Q.hd a=Q.hd q:=by rw [e,hd_mul q0 z0,hz,Rat.mul_one]
 have h1:=h.fac hn h0 ⟨z,e⟩ hl hd hk;have h2:=(h.hd h0).mul h1;rwa [e1,<- nrm_back q0] at h2
end Q
end
