/- Chapter 08's numbers. No program in sight. Chapter 08's polynomials have a greatest common divisor that the program answers. No program in sight. What chapter 08 draws, its products, and the normal divisors: sizes. No program in sight. MgcdLaws: the plain law. No program in sight. Gcd's answers, known in plain words. -/
import Derived.Test.YtopclbeomcggiaaGreatE38
import Derived.Test.YtopclbeomcggiaaGreatEUJ
set_option linter.unusedVariables false
set_option linter.unusedSimpArgs false
set_option maxHeartbeats 16000000
set_option maxRecDepth 100000
section
namespace Q
open MP Go.Proofs.YtopclbeomcggiaaGreat
def cl2 (n:Nat):Nat:=n.log2+1
def kb (d:Nat):Nat:=d*(cl2 (4*d+3)+cl2 (2*d+1))
def mkL (v M d b E br P:Nat):LvD where
 M:=M
 d:=d
 b:=b
 E:=E
 br:=br
 kE:=v*kb E
 k0:=v*kb d+kb M
 lM:=cl2 M
 P:=P
 R:=fun U=>if v=0 then 1 else 2*U*d+1
 l2:=fun U=>cl2 (2*U*(if v=0 then 1 else 2*U*d+1) ^ v)
 xi:=fun U=>(cl2 (2*U*(if v=0 then 1 else 2*U*d+1) ^ v)+(if v=0 then b else b+(b+(v*kb d+kb M))))*((U-1)*((if v=0 then 1 else 2*U*d+1)+d) ^ v) / (U*(if v=0 then 1 else 2*U*d+1) ^ v-(U-1)*((if v=0 then 1 else 2*U*d+1)+d) ^ v)+1
 kap:=fun U=>v*kb ((if v=0 then 1 else 2*U*d+1)-1+d)+kb M
def lvB (v:Nat) (L:LvD):Bool :=
 decide (v<4) && decide (L.M<=2 ^ L.lM) && decide (facK (bxf v L.d L.M) (v+1)<=2 ^ L.k0) && decide (facK (bxf v L.E 0) v<=2 ^ L.kE)
 && decide (∀ U,U<2*L.M->1<=U->L.mu v U<=L.mu v (U+1))
 && decide (∀ U,U<2*L.M+1->2<=U->0<L.R U/\2*U*L.R U ^ v<=2 ^ L.l2 U/\(L.l2 U+L.b1 v+L.xi U)*((U-1)*(L.R U+L.d) ^ v)<L.xi U*(U*L.R U ^ v)/\facK (bxf v (L.R U-1+L.d) L.M) (v+1)<=2 ^ L.kap U)
 && decide ((L.M+1)*(1*L.d)<=L.P/\(L.M+1)*(L.b1 v+1)+L.lM<LB)
 && decide (∀ k,k<L.M+1->2<=k->(k+1)*(L.U k*L.d)<=L.P/\(k+1)*(L.mu v (L.U k)+1)+L.lM<LB)
 && decide ((L.M+1)*(L.P+1) ^ v<=10000) && decide (L.M*(1*L.d)<=L.E/\L.M*(L.b1 v+1)+L.lM<=L.br)
 && decide (∀ k,k<L.M+1->3<=k->k*(L.U k*L.d)<=L.E/\k*(L.mu v (L.U k)+1)+L.lM<=L.br)
 && decide (L.d<=L.E/\L.b<=L.br/\L.E<=L.P/\1<=L.M) && decide (L.br+L.mu v (2*L.M)+L.cz v L.br<LB) && decide (L.b1 v+L.cz v L.b<LB)
 && decide (bx (wbx v L.d (wtM v L.d L.M))<=10000/\L.b1 v+L.b1 v+(bx (wbx v L.d (wtM v L.d L.M))+1)*(L.b1 v+1)<LB)
 && decide (L.bE+L.mu v (2*L.M)<LB) && decide (L.M+1<fuel)
theorem lvB_ok {v:Nat} {L:LvD} (h:lvB v L=true):LvOk v L:=by
 simp only [lvB,Bool.and_eq_true,decide_eq_true_eq] at h;obtain⟨⟨⟨⟨⟨⟨⟨⟨⟨⟨⟨⟨⟨⟨⟨⟨h1,h2⟩,h3⟩,h4⟩,h5⟩,h6⟩,h7⟩,h8⟩,h9⟩,h10⟩,h11⟩,h12⟩,h13⟩,h14⟩,h15⟩,h16⟩,h17⟩:=h;exact⟨h1,h2,h3,h4,h5,h6,h7,h8,h9,h10,h11,h12,h13,h14,h15,h16,h17⟩
def L8:Nat->LvD
|0=>mkL 0 320 320 136492 16486400 7033665291 16589440
|1=>mkL 1 8 8 712 320 129772 400
|_=>mkL 2 2 4 90 8 536 24
theorem L8_0:LvOk 0 (L8 0):=lvB_ok (by decide +kernel)
theorem L8_1:LvOk 1 (L8 1):=lvB_ok (by decide +kernel)
theorem L8_2:LvOk 2 (L8 2):=lvB_ok (by decide +kernel)
theorem L8_ok:Lvs L8 2:=⟨L8_2,by decide +kernel,by decide +kernel,by decide +kernel,L8_1,by decide +kernel,by decide +kernel,by decide +kernel,L8_0⟩
def D8:Nat->Nat:=bxf 2 4 2
theorem gcd8 {a b:MP} (da:Dg D8 a) (db:Dg D8 b) (ia:In 90 a) (ib:In 90 b):∃ g:MP,gcdN 6 a.l b.l=some g.l/\NG g a b:=by
 obtain⟨r,hr⟩:=gcd_ex 2 L8_ok 2 a b da db ia ib;obtain⟨g,rfl,hg⟩:=gcdN_ok 6 a b r hr;exact⟨g,hr,hg⟩
structure Dm (p:MP):Prop where
 e:∀ t∈p.l,(0<=t.1.1/\t.1.1<=2)/\(0<=t.1.2.1/\t.1.2.1<=2)/\(0<=t.1.2.2.1/\t.1.2.2.1<=1)/\t.1.2.2.2=0
 i:Ind 1 15 p
def made8M (L:List Dr4):MP:=⟨made8P L,canon_val _⟩
theorem made8_dm (L:List Dr4):Dm (made8M L):=by
 have hb:=(made8_bd L).canon;refine⟨canon_ex (P:=fun e=>(0<=e.1/\e.1<=2)/\(0<=e.2.1/\e.2.1<=2)/\(0<=e.2.2.1/\e.2.2.1<=1)/\e.2.2.2=0) fun t ht=>?_,hb.d,?_⟩
 ·obtain⟨s,hs,rfl⟩:=List.mem_map.1 ht;show (0<=s.1 % 256 % 3/\s.1 % 256 % 3<=2)/\(0<=s.2.1 % 256 % 3/\s.2.1 % 256 % 3<=2)/\(0<=s.2.2.1 % 256 % 2/\s.2.2.1 % 256 % 2<=1)/\(0:Int)=0;omega
 ·rw [show ((1:Nat):Rat)=1 from rfl,Rat.one_mul];exact hb.b
structure Dq (H:Nat) (p:MP):Prop where
 d:Dg D8 p
 i:Ind 1 H p
theorem D8_get:D8 0=4/\D8 1=4/\D8 2=2/\D8 3=0:=by decide
theorem Dm.dq {p:MP} (h:Dm p):Dq 15 p:=by
 refine⟨dg_of fun t ht=>⟨(p.v.2 t ht).2,fun w hw=>?_⟩,h.i⟩;have h1:=h.e t ht;obtain⟨e0,e1,e2,e3⟩:=D8_get;obtain rfl|rfl|rfl|rfl:w=0\/w=1\/w=2\/w=3:=by omega
 ·rw [e0];show t.1.1<=_;omega
 ·rw [e1];show t.1.2.1<=_;omega
 ·rw [e2];show t.1.2.2.1<=_;omega
 ·rw [e3];show t.1.2.2.2<=_;omega
theorem Dm.deg {p:MP} (h:Dm p):p.deg 0<=2/\p.deg 1<=2/\p.deg 2<=1/\p.deg 3<=0:=by
 have hw:∀ (w:Nat) (k:Int),0<=k->(∀ t∈p.l,t.1.get w<=k)->p.deg w<=k:=fun w k hk h=>by
  rcases (foldl_max (fun t=>t.1.get w) p.l (-1)).2.2 with e|⟨t,ht,e⟩
  ·show degP p.l w<=_;unfold degP;rw [e];omega
  ·show degP p.l w<=_;unfold degP;rw [<- e];exact h t ht
 exact⟨hw 0 2 (by omega) fun t ht=>by have:=h.e t ht;show t.1.1<=_;omega,hw 1 2 (by omega) fun t ht=>by have:=h.e t ht;show t.1.2.1<=_;omega,
  hw 2 1 (by omega) fun t ht=>by have:=h.e t ht;show t.1.2.2.1<=_;omega,hw 3 0 (by omega) fun t ht=>by have:=h.e t ht;show t.1.2.2.2<=_;omega⟩
theorem Dm.mul {p q:MP} (h:Dm p) (h':Dm q):Dq 225 (p*q):=by
 obtain⟨a0,a1,a2,a3⟩:=h.deg;obtain⟨b0,b1,b2,b3⟩:=h'.deg;obtain⟨e0,e1,e2,e3⟩:=D8_get;refine⟨fun w hw=>?_,h.i.mul h'.i⟩;obtain rfl|rfl|rfl|rfl:w=0\/w=1\/w=2\/w=3:=by omega
 ·rw [e0];exact deg_mul_le 0 p q a0 b0 (by omega)
 ·rw [e1];exact deg_mul_le 1 p q a1 b1 (by omega)
 ·rw [e2];exact deg_mul_le 2 p q a2 b2 (by omega)
 ·rw [e3];exact deg_mul_le 3 p q a3 b3 (by omega)
theorem D8_lo {p:MP} (h:Dg D8 p):p.lo 3:=h.lo
theorem facK8:facK D8 3<=2 ^ 72:=by decide +kernel
theorem bx8:bx D8=75:=by decide +kernel
theorem Dq.in {H b:Nat} {p:MP} (h:Dq H p) (hb:H<=2 ^ b):In b p:=⟨1,H,by omega,Nat.one_le_two_pow,hb,h.i⟩
theorem rabs_ge {x:Rat} (h:Dv 1 x) (h0:x≠0):1<=rabs x:=by
 obtain⟨z,rfl⟩:=int_of_dv h;exact MP.rabs_int fun e=>h0 (by rw [e];rfl)
theorem nd_ind {H:Nat} {f g q:MP} (h:Dq H f) (f0:f≠0) (e:f=g*q) (hg:hd g=1):∃ z:Nat,0<z/\z<=H/\Ind z (2 ^ 72*H) g/\Ind 1 (z*(2 ^ 72*H)) q:=by
 have g0:g≠0:=fun h=>f0 (by rw [e,h];grind);have q0:q≠0:=fun h=>f0 (by rw [e,h];grind);obtain⟨r,hr,hp⟩:=pz_of g0;have hri:c r*c r⁻¹=1:=by rw [c_mul,Rat.mul_inv_cancel _ hr];rfl
 have hrv:r⁻¹≠0:=fun h=>by have:=Rat.mul_inv_cancel _ hr;rw [h] at this;grind
 have e2:f=(c r*g)*(c r⁻¹*q):=by rw [e];grind
 have iQ:=gaussZ h.i.d hp e2;have Q0:c r⁻¹*q≠0:=mul_ne (c_ne hrv) q0;have G0:c r*g≠0:=mul_ne (c_ne hr) g0;have ham:f.am<=(H:Rat):=by have:=h.i.a;rwa [show ((1:Nat):Rat)=1 from rfl,Rat.one_mul] at this
 have hk:∀ x y:MP,f=x*y->x.dv 1->y.dv 1->Ind 1 (2 ^ 72*H) x:=fun x y e ix iy=>by
  refine⟨ix,?_⟩;have:=MP.fac D8 3 (by omega) _ _ _ e f0 ix iy (D8_lo h.d) fun w hw=>h.d w (by omega);rw [show ((1:Nat):Rat)=1 from rfl,Rat.one_mul,Rat.natCast_mul];exact Rat.le_trans this (rmul_le (nr_le facK8) ham (nr_nonneg _) (nr_nonneg _))
 have hG:=hk _ _ e2 hp.1 iQ;obtain⟨z,z1,z2,z3,z4⟩:=hG.nrm (by omega) G0;rw [nrm_cmul hr,nrm_one hg] at z4;rw [show ((1:Nat):Rat)=1 from rfl,Rat.one_mul] at z2;have ehd:hd f=hd (c r*g)*hd (c r⁻¹*q):=by rw [e2,hd_mul G0 Q0]
 have hq1:1<=rabs (hd (c r⁻¹*q)):=by
  obtain⟨t,ht,et⟩:=hd_mem Q0;exact rabs_ge (by rw [et];exact iQ t ht) (hd_ne Q0)
 have hzH:z<=H:=by
  refine Rat.natCast_le_natCast.1 ?_;rw [z2];have h1:=Rat.mul_le_mul_of_nonneg_left hq1 (rabs_nonneg (hd (c r*g)));rw [<- rabs_mul,<- ehd,Rat.mul_one] at h1;exact Rat.le_trans h1 (Rat.le_trans (hd_am f0) ham)
 refine⟨z,z1,hzH,z4,?_⟩;have hQ:=hk _ _ (e2.trans (mul_cm _ _)) iQ hp.1;have hdr:hd (c r*g)=r:=by rw [hd_cmul hr,hg,Rat.one_mul]
 have eq:q=c r*(c r⁻¹*q):=by grind
 have ir:Dv 1 r:=by
  obtain⟨t,ht,et⟩:=hd_mem G0;rw [<- hdr,et];exact hp.1 t ht
 have i1:Ind 1 z (c r):=⟨dv_c ir,by rw [am_c,show ((1:Nat):Rat)=1 from rfl,Rat.one_mul,z2,hdr];exact Rat.le_refl⟩;have:=i1.mul hQ;rw [<- eq,Nat.one_mul] at this;exact this
def szN (D:Nat):Sz:=⟨D,2 ^ 200,4,75⟩
theorem ind_bd {D H:Nat} {p:MP} (h:Ind D H p) (hD:0<D) (hd:Dg D8 p) (hH:H<=2 ^ 200):Bd (szN D) p.l:=by
 refine⟨by have:=hd.len;rw [bx8] at this;exact this,fun t ht=>?_,h.d,?_⟩
 ·have h1:=(hd.inB t ht).2;have h0:=Ex.nat_iff.1 (hd.inB t ht).1;obtain⟨e0,e1,e2,e3⟩:=D8_get;have a0:=h1 0 (by omega);have a1:=h1 1 (by omega);have a2:=h1 2 (by omega);have a3:=h1 3 (by omega);rw [e0] at a0;rw [e1] at a1;rw [e2] at a2;rw [e3] at a3;simp only [Ex.get] at a0 a1 a2 a3;simp only [szN];omega
 ·have h1:p.am<=(D:Rat)*p.am:=by
   have h2:(1:Rat)<=(D:Rat):=one_le_nat hD;have:=Rat.mul_le_mul_of_nonneg_right h2 p.am_nonneg;rwa [Rat.one_mul] at this
  exact Rat.le_trans h1 (Rat.le_trans h.a (nr_le hH))
theorem szN_ok {D:Nat} (h:0<D) (h':D<65536):(szN D).ok:=⟨h,h',by show 2 ^ 200<2 ^ 1000;exact p200,by show 4<1000000;omega,by show 75<1000000;omega⟩
theorem szN_mul {D D':Nat} (h:0<D) (h':0<D') (k:D*D' < 65536):((szN D).mul (szN D')).ok:=⟨Nat.mul_pos h h',k,by show 2 ^ 200*2 ^ 200<2 ^ 1000;exact p200',by show 4+4<1000000;omega,by show 75*75<1000000;omega⟩
theorem Dq.pk {H:Nat} {p:MP} (h:Dq H p) (hH:H<=2 ^ 200):Pk (szN 1) p.l:=⟨p.v,ind_bd h.i (by omega) h.d hH,szN_ok (by omega) (by omega)⟩
theorem zero_pk:Pk (szN 1) (0:MP).l:=⟨(0:MP).v,Bd.nil _,szN_ok (by omega) (by omega)⟩
theorem wp8 {p:MP} (hd:Dg D8 p) (hi:In 90 p):Wp p.l:=wpB_wp (wp_of hd hi (by rw [bx8];omega) (by rw [LB_eq];omega))
theorem Dq.in90 {H:Nat} {p:MP} (h:Dq H p) (hH:H<=225):In 90 p:=h.in (Nat.le_trans hH (by decide +kernel))
theorem zero_in:Dg D8 (0:MP)/\In 90 (0:MP):=⟨fun w _=>by rw [deg_zero];omega,In.zero _⟩
theorem NG.eq2 {g h a b:MP} (hg:NG g a b) (hh:NG h a b):g=h:=by
 have h1:=hh.i.u g hg.i.l hg.i.r;have h2:=hg.i.u h hh.i.l hh.i.r;by_cases h0:g=0
 ·rw [h0] at h1 ⊢;exact (zero_dvd h1).symm
 ·have h3:h≠0:=fun e=>h0 (by rw [e] at h2;exact zero_dvd h2);exact nrm_eq h0 h1 h2 (hg.n h0) (hh.n h3)
structure An (a b g:MP):Prop where
 e:gcdN 6 a.l b.l=some g.l
 wa:Wp a.l
 wb:Wp b.l
theorem an_of {a b g:MP} (da:Dg D8 a) (db:Dg D8 b) (ia:In 90 a) (ib:In 90 b) (hg:NG g a b):An a b g:=by
 obtain⟨h,e,hh⟩:=gcd8 da db ia ib;rw [hh.eq2 hg] at e;exact⟨e,wp8 da ia,wp8 db ib⟩
end Q
end
section
namespace Go.Proofs.YtopclbeomcggiaaGreat
open Go.RowKit Q
theorem anCalls {a b g:MP} (h:An a b g) (W:World) (u v:Value) (h1:IsPoly W u a.l) (h2:IsPoly W v b.l):Calls Tryz.prog 16 #[u,v] W (RetPoly W g.l) :=
 (gcdN_any 6 _ _ _ h.wa h.wb h.e).1 u v W h1 h2
end Go.Proofs.YtopclbeomcggiaaGreat
end
