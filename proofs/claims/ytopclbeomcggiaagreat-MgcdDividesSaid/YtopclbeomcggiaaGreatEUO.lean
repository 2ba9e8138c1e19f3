/- MgcdDivides: the plain law. No program in sight. -/
import Derived.Test.YtopclbeomcggiaaGreatE35
import Derived.Test.YtopclbeomcggiaaGreatE43
set_option linter.unusedVariables false
set_option linter.unusedSimpArgs false
set_option maxHeartbeats 16000000
set_option maxRecDepth 100000
namespace Q
open MP Go.Proofs.YtopclbeomcggiaaGreat
theorem quot_ind {D H K:Nat} {g k s:MP} (hg:Ind D H g) (hD:0<D) (hk:Ind 1 K k) (g0:g≠0) (e:g=k*s) (dg:Dg D8 g):∃ z,0<z/\z<=K/\Ind (z*D) (2 ^ 72*H) s:=by
 have k0:k≠0:=fun h=>g0 (by rw [e,h];grind);have s0:s≠0:=fun h=>g0 (by rw [e,h];grind);obtain⟨r,hr,hp⟩:=pz_of k0;have hri:c r*c r⁻¹=1:=by rw [c_mul,Rat.mul_inv_cancel _ hr];rfl
 have hrv:r⁻¹≠0:=fun h=>by have:=Rat.mul_inv_cancel _ hr;rw [h] at this;grind
 have i1:=gaussZ hk.d hp (show k=(c r*k)*c r⁻¹ by grind)
 obtain⟨zz,hz⟩:∃ zz:Int,r⁻¹=(zz:Rat):=by
  refine int_of_dv ?_;have hc0:=c_ne hrv;obtain⟨t,ht,et⟩:=hd_mem hc0;have h1:=hd_cmul hrv 1;have h2:c r⁻¹*1=c r⁻¹:=by grind
  rw [h2,hd_one,Rat.one_mul] at h1;rw [<- h1,et];exact i1 t ht
 have hzz:zz≠0:=fun h=>hrv (by rw [hz,h];rfl);have hza:((zz.natAbs:Nat):Rat)=rabs r⁻¹:=by rw [hz,Q.rabs_int]
 have hK:zz.natAbs<=K:=by
  refine Rat.natCast_le_natCast.1 ?_
  have h1:k.am=rabs r⁻¹*(c r*k).am:=by
   rw [<- am_cmul];congr 1;grind
  have h2:=am_ge_one hp.1 (mul_ne (c_ne hr) k0);have h3:=Rat.mul_le_mul_of_nonneg_left h2 (rabs_nonneg r⁻¹);have h4:=hk.a;rw [show ((1:Nat):Rat)=1 from rfl,Rat.one_mul] at h4;rw [hza];rw [Rat.mul_one,<- h1] at h3;exact Rat.le_trans h3 h4
 have hD0:(D:Rat)≠0:=nat_ne hD
 have eP:c (D:Rat)*g=(c r*k)*(c ((D:Rat)*r⁻¹)*s):=by
  have h5:c r*c ((D:Rat)*r⁻¹)=c (D:Rat):=by rw [c_mul];congr 1;have:=Rat.mul_inv_cancel _ hr;grind
  rw [e,<- h5];grind
 have iS:=gaussZ (dv_clear hg.d) hp eP;have dP:Dg D8 (c (D:Rat)*g):=fun w hw=>by rw [deg_cmul hD0 g0];exact dg w hw
 have hf:=MP.fac D8 3 (by omega) _ _ _ (eP.trans (mul_cm _ _)) (mul_ne (c_ne hD0) g0) iS hp.1 (D8_lo dP) fun w hw=>dP w (by omega);rw [am_cmul (D:Rat) g,rabs_of_pos (nr_nonneg D)] at hf;have hsz:rabs ((D:Rat)*r⁻¹)=((zz.natAbs*D:Nat):Rat):=by rw [rabs_mul,rabs_of_pos (nr_nonneg D),<- hza,Rat.natCast_mul];grind
 refine⟨zz.natAbs,by omega,hK,dv_unclear (Nat.mul_pos (by omega) hD) ?_,?_⟩
 ·have h6:((zz.natAbs*D:Nat):Rat)=(D:Rat)*r⁻¹\/((zz.natAbs*D:Nat):Rat)=-((D:Rat)*r⁻¹):=by
   rw [<- hsz];rcases rlt_or_le ((D:Rat)*r⁻¹) with h|h
   ·exact .inr (rabs_of_neg h)
   ·exact .inl (rabs_of_pos h)
  rcases h6 with h|h
  ·rw [h];exact iS
  ·rw [h];have e7:c (-((D:Rat)*r⁻¹))*s=-(c ((D:Rat)*r⁻¹)*s):=ext' fun x=>by rw [MP.ev_mul,MP.ev_c,MP.ev_neg,MP.ev_mul,MP.ev_c];grind
   rw [e7];exact dv_neg iS
 ·rw [<- hsz,<- am_cmul];rw [Rat.natCast_mul];exact Rat.le_trans hf (rmul_le (nr_le facK8) hg.a (nr_nonneg _) (nr_nonneg _))
theorem runB_ex {Dq Dz:Nat} {q z:MP} {t:Trm} {r:List Trm} (hz:z.l=t::r) (Kq:Pk (szN Dq) q.l) (Kz:Pk (szN Dz) z.l) (hD:Dq*Dz<65536) (hD2:Dz*Dq<65536) (hgs:Dq*Dz*t.2.num.natAbs<4294967296) :
  RunB ((szN Dq).mul (szN Dz)) (szN Dz) (szN Dq) (t::r) t/\RunD ((szN Dq).mul (szN Dz)) (szN Dq) (t::r) t q.l.length (mulP q.l (t::r)) [] (some q.l):=by
 have h0:=Kq.k.1;have h1:=Kz.k.1;have hm:((szN Dz).mul (szN Dq)).ok:=szN_mul h1 h0 hD2;refine⟨⟨hz ▸ Kz,⟨r,rfl⟩,Kq.k,hm,?_,hgs⟩,?_⟩
 ·refine⟨Nat.mul_pos (Nat.mul_pos h1 h0) Nat.one_pos,?_,?_,?_,?_⟩
  ·show Dz*Dq*1<65536;omega
  ·show 2 ^ 200*2 ^ 200*1<2 ^ 1000;rw [Nat.mul_one];exact p200'
  ·show 4+4+0<1000000;omega
  ·show 75*75*1<1000000;omega
 ·have hk:((szN Dq).mul (szN Dz)).ok:=szN_mul h0 h1 hD;have:=run_exact (sq:=szN Dq) (hz ▸ Kz:Pk (szN Dz) (t::r)) hk q.l [] Kq (fun u hu=>Kq.b.sub (List.singleton_sublist.2 hu)) (by have h2:=Kq.b.n;have h3:(szN Dq).N=75:=rfl;rw [h3] at h2;simp only [List.length_nil];omega);simpa using this
theorem div_ex {a b k:MP} (ha:Dm a) (hb:Dm b) (hk:Dm k) (hne:a*k≠0\/b*k≠0):∃ g x y s:MP,∃ t r,∃ z zs:Nat,An (a*k) (b*k) g/\g.l=t::r/\t.2=1/\a*k=x*g/\b*k=y*g/\g=s*k/\An x y 1/\0<z/\z<=225/\Pk (szN z) g.l/\Pk (szN 1) x.l/\Pk (szN 1) y.l/\0<zs/\zs<=3375/\Pk (szN zs) s.l:=by
 have qa:=ha.mul hk;have qb:=hb.mul hk;have ia:=qa.in90 (by omega);have ib:=qb.in90 (by omega);obtain⟨g,eg,hg⟩:=gcd8 qa.d qb.d ia ib
 have k0:k≠0:=fun h=>by
  rcases hne with h1|h1
  ·exact h1 (by rw [h];grind)
  ·exact h1 (by rw [h];grind)
 have g0:g≠0:=fun h=>by
  rw [h] at hg;rcases hne with h1|h1
  ·exact h1 (zero_dvd hg.i.l)
  ·exact h1 (zero_dvd hg.i.r)
 obtain⟨t,r,hl⟩:=head_ex g0;have ht:t.2=1:=by rw [<- hg.n g0,hd_eq hl]
 obtain⟨x,ex⟩:=hg.i.l;obtain⟨y,ey⟩:=hg.i.r;obtain⟨s,es⟩:=hg.i.u k (dvd_mul_left k a) (dvd_mul_left k b);have hgn:=hg.n g0
 -- sizes
 have hgz:∃ z,0<z/\z<=225/\Ind z (2 ^ 72*225) g/\Dg D8 g:=by
  rcases hne with h1|h1
  ·obtain⟨z,z1,z2,z3,-⟩:=nd_ind qa h1 ex hgn;exact⟨z,z1,z2,z3,qa.d.dvd h1 ⟨x,ex⟩⟩
  ·obtain⟨z,z1,z2,z3,-⟩:=nd_ind qb h1 ey hgn;exact⟨z,z1,z2,z3,qb.d.dvd h1 ⟨y,ey⟩⟩
 obtain⟨z,z1,z2,z3,dg⟩:=hgz;have hB:2 ^ 72*225<=2 ^ 200:=by decide +kernel
 have hqs:∀ {f w:MP},Dq 225 f->f=g*w->Dg D8 w/\In 90 w/\Pk (szN 1) w.l:=fun {f w} hf e=>by
  by_cases f0:f=0
  ·have w0:w=0:=by
    rcases mul_eq_zero.1 (e.symm.trans f0) with h|h
    ·exact absurd h g0
    ·exact h
   rw [w0];exact⟨zero_in.1,zero_in.2,zero_pk⟩
  ·obtain⟨z',a1,a2,-,a4⟩:=nd_ind hf f0 e hgn;have hd:Dg D8 w:=hf.d.dvd f0 ⟨g,e.trans (mul_cm g w)⟩;have h1:=Nat.mul_le_mul_right (2 ^ 72*225) a2;exact⟨hd,⟨1,_,by omega,Nat.one_le_two_pow,Nat.le_trans h1 (by decide +kernel),a4⟩,w.v,ind_bd a4 (by omega) hd (Nat.le_trans h1 (by decide +kernel)),szN_ok (by omega) (by omega)⟩
 obtain⟨dx,ix,Kx⟩:=hqs qa ex;obtain⟨dy,iy,Ky⟩:=hqs qb ey;obtain⟨k',ek,hk'⟩:=gcd8 dx dy ix iy;have e1:=hg.coprime g0 ex ey hk';rw [e1] at hk';obtain⟨zs,y1,y2,y3⟩:=quot_ind z3 z1 hk.i g0 es dg;have ds:Dg D8 s:=dg.dvd g0 ⟨k,es.trans (mul_cm k s)⟩;have h3:zs*z<=15*225:=Nat.mul_le_mul y2 z2
 exact⟨g,x,y,s,t,r,z,zs*z,an_of qa.d qb.d ia ib hg,hl,ht,ex.trans (mul_cm g x),ey.trans (mul_cm g y),es.trans (mul_cm k s),an_of dx dy ix iy hk',z1,z2,
  ⟨g.v,ind_bd z3 z1 dg hB,szN_ok z1 (by omega)⟩,Kx,Ky,Nat.mul_pos y1 z1,by omega,s.v,ind_bd y3 (Nat.mul_pos y1 z1) ds (by decide +kernel),szN_ok (Nat.mul_pos y1 z1) (by omega)⟩
end Q
