/- Small polynomials pass the tests; divisions answer. No program in sight. A division of small polynomials ends, whether or not it is exact. No program in sight. Pseudo-divisions of small polynomials answer; the size of the pseudo-remainder. No program in sight. The members of a remainder sequence are small. No program in sight. Where the sizes do, the greatest common divisor answers. No program in sight. -/
import Derived.Test.YtopclbeomcggiaaGreatC31
import Derived.Test.YtopclbeomcggiaaGreatC36
set_option linter.unusedVariables false
set_option linter.unusedSimpArgs false
set_option maxHeartbeats 16000000
set_option maxRecDepth 100000
section
namespace Q
open MP Go.Proofs.YtopclbeomcggiaaGreat
theorem nodup_lt:∀ (N:Nat) (L:List Nat),L.Nodup->(∀ x∈L,x<N)->L.length<=N
|0,L,_,h=>by
  cases L with
 |nil=>simp
 |cons x L=>have:=h x (by simp);omega
|N+1,L,hn,h=>by
  by_cases hN:N∈L
  ·have h1:=nodup_lt N (L.erase N) (hn.erase N) fun x hx=>by
    have h2:=(hn.mem_erase_iff).1 hx;have:=h x h2.2;have:=h2.1;omega
   rw [List.length_erase_of_mem hN] at h1;omega
  ·have:=nodup_lt N L hn fun x hx=>by
    have:=h x hx;have:x≠N:=fun e=>hN (e ▸ hx);omega
   omega
def bx (d:Nat->Nat):Nat:=(d 0+1)*(d 1+1)*(d 2+1)*(d 3+1)
def InB (d:Nat->Nat) (e:Ex):Prop:=e.nat=true/\∀ w,w<4->e.get w<=d w
def codeE (d:Nat->Nat) (e:Ex):Nat:=((e.1.toNat * (d 1+1)+e.2.1.toNat)*(d 2+1)+e.2.2.1.toNat)*(d 3+1)+e.2.2.2.toNat
theorem code_lt {a b A B:Nat} (ha:a<A) (hb:b<B):a*B+b<A*B:=by
 have:=Nat.mul_le_mul_right B (show a+1<=A by omega);rw [Nat.add_mul] at this;omega
theorem code_inj {a b a' b' B:Nat} (hb:b<B) (hb':b' < B) (h:a*B+b=a'*B+b'):a=a'/\b=b':=by
 have h1:(a*B+b) / B=a:=by rw [Nat.mul_comm,Nat.mul_add_div (by omega),Nat.div_eq_of_lt hb,Nat.add_zero]
 have h2:(a'*B+b') / B=a':=by rw [Nat.mul_comm,Nat.mul_add_div (by omega),Nat.div_eq_of_lt hb',Nat.add_zero]
 have h3:a=a':=by rw [<- h1,<- h2,h]
 subst h3;omega
theorem InB.parts {d:Nat->Nat} {e:Ex} (h:InB d e):e.1.toNat<d 0+1/\e.2.1.toNat<d 1+1/\e.2.2.1.toNat<d 2+1/\e.2.2.2.toNat<d 3+1/\0<=e.1/\0<=e.2.1/\0<=e.2.2.1/\0<=e.2.2.2:=by
 have h0:=Ex.nat_iff.1 h.1;have a0:=h.2 0 (by omega);have a1:=h.2 1 (by omega);have a2:=h.2 2 (by omega);have a3:=h.2 3 (by omega);simp only [Ex.get] at a0 a1 a2 a3;omega
theorem code_bx {d:Nat->Nat} {e:Ex} (h:InB d e):codeE d e<bx d:=by
 obtain⟨h0,h1,h2,h3,_⟩:=h.parts;exact code_lt (code_lt (code_lt h0 h1) h2) h3
theorem code_ne {d:Nat->Nat} {e f:Ex} (h:InB d e) (h':InB d f) (hc:codeE d e=codeE d f):e=f:=by
 obtain⟨h0,h1,h2,h3,n0,n1,n2,n3⟩:=h.parts;obtain⟨k0,k1,k2,k3,m0,m1,m2,m3⟩:=h'.parts;obtain⟨c1,c2⟩:=code_inj h3 k3 hc;obtain⟨c3,c4⟩:=code_inj h2 k2 c1;obtain⟨c5,c6⟩:=code_inj h1 k1 c3;exact Ex.ext' (by omega) (by omega) (by omega) (by omega)
theorem box_len {d:Nat->Nat} {L:List Ex} (hn:L.Nodup) (h:∀ e∈L,InB d e):L.length<=bx d:=by
 have h1:(L.map (codeE d)).Nodup:=by
  induction L with
 |nil=>exact List.nodup_nil
 |cons e L ih =>
   rw [List.nodup_cons] at hn;rw [List.map_cons,List.nodup_cons];refine⟨fun hm=>?_,ih hn.2 fun f hf=>h f (by simp [hf])⟩;obtain⟨f,hf,hc⟩:=List.mem_map.1 hm;exact hn.1 (code_ne (h e (by simp)) (h f (by simp [hf])) hc.symm ▸ hf)
 have:=nodup_lt (bx d) _ h1 fun x hx=>by
  obtain⟨e,he,rfl⟩:=List.mem_map.1 hx;exact code_bx (h e he)
 rwa [List.length_map] at this
theorem srt_nodup {l:List Trm} (h:Srt l):(l.map Prod.fst).Nodup:=by
 induction l with
|nil=>exact List.nodup_nil
|cons t l ih =>
  have h':=List.pairwise_cons.1 h;rw [List.map_cons,List.nodup_cons];refine⟨fun hm=>?_,ih h'.2⟩;obtain⟨u,hu,e⟩:=List.mem_map.1 hm;exact Ex.gt_ne (h'.1 u hu) e.symm
theorem Dg.inB {d:Nat->Nat} {p:MP} (h:Dg d p):∀ t∈p.l,InB d t.1:=fun t ht=>⟨(p.v.2 t ht).2,fun w hw=>Int.le_trans (degP_le ht w) (h w hw)⟩
theorem Dg.len {d:Nat->Nat} {p:MP} (h:Dg d p):p.l.length<=bx d:=by
 have:=box_len (srt_nodup p.v.1) (d:=d) fun e he=>by
  obtain⟨t,ht,rfl⟩:=List.mem_map.1 he;exact h.inB t ht
 rwa [List.length_map] at this
theorem dg_of {d:Nat->Nat} {p:MP} (h:∀ t∈p.l,InB d t.1):Dg d p:=fun w hw=>by
 rcases (foldl_max (fun t=>t.1.get w) p.l (-1)).2.2 with e|⟨t,ht,e⟩
 ·show degP p.l w<=_;unfold degP;rw [e];omega
 ·show degP p.l w<=_;unfold degP;rw [<- e];exact (h t ht).2 w hw
theorem le4 {a b c e:Nat} (ha:0<a) (hb:0<b) (hc:0<c) (he:0<e):a<=a*b*c*e/\b<=a*b*c*e/\c<=a*b*c*e/\e<=a*b*c*e:=by
 have e1:a*b*c*e=a*(b*c*e):=by simp only [Nat.mul_assoc]
 have e2:a*b*c*e=b*(a*c*e):=by simp only [Nat.mul_comm,Nat.mul_left_comm]
 have e3:a*b*c*e=c*(a*b*e):=by simp only [Nat.mul_comm,Nat.mul_left_comm]
 have e4:a*b*c*e=e*(a*b*c):=by simp only [Nat.mul_comm,Nat.mul_left_comm]
 refine⟨?_,?_,?_,?_⟩
 ·rw [e1];exact Nat.le_mul_of_pos_right _ (Nat.mul_pos (Nat.mul_pos hb hc) he)
 ·rw [e2];exact Nat.le_mul_of_pos_right _ (Nat.mul_pos (Nat.mul_pos ha hc) he)
 ·rw [e3];exact Nat.le_mul_of_pos_right _ (Nat.mul_pos (Nat.mul_pos ha hb) he)
 ·rw [e4];exact Nat.le_mul_of_pos_right _ (Nat.mul_pos (Nat.mul_pos ha hb) hc)
theorem bx_ge (d:Nat->Nat):d 0+1<=bx d/\d 1+1<=bx d/\d 2+1<=bx d/\d 3+1<=bx d:=le4 (by omega) (by omega) (by omega) (by omega)
theorem num_dv {D:Nat} {x:Rat} (hD:0<D) (h:Dv D x):x.den∣D/\rabs ((x.num:Int):Rat)<=(D:Rat)*rabs x:=by
 obtain⟨k,hk⟩:=h;have hD0:(D:Rat)≠0:=nat_ne hD
 have hc:x=Rat.divInt k D:=by
  rw [Rat.divInt_eq_div,Rat.intCast_natCast,<- hk];grind
 obtain⟨e1,e2⟩:=divInt_pos k D (by omega);rw [<- hc] at e1 e2;refine⟨Int.natCast_dvd_natCast.1 ⟨(Int.gcd k D:Int),by rw [e2];exact (Int.ediv_mul_cancel (Int.gcd_dvd_right _ _)).symm⟩,?_⟩;have h4:x.num.natAbs<=k.natAbs:=by rw [e1];exact Int.natAbs_ediv_le_natAbs _ _
 have h5:(D:Rat)*rabs x=rabs (k:Rat):=by rw [<- hk,rabs_mul,rabs_of_pos (nr_nonneg D)];grind
 rw [h5,Q.rabs_int,Q.rabs_int];exact nr_le h4
theorem rabs_dv {D:Nat} {x:Rat} (h:Dv D x):Dv D (rabs x):=by
 unfold rabs;split
 ·exact h.neg
 ·exact h
theorem asum_dv {D:Nat}:∀ {l:List Trm},(∀ t∈l,Dv D t.2)->Dv D (asum l)
|[],_=>Dv.zero D
|t::l,h=>(rabs_dv (h t (by simp))).add (asum_dv fun u hu=>h u (by simp [hu]))
theorem lcmD_dvd {D:Nat}:∀ {l:List Trm},(∀ t∈l,t.2.den∣D)->lcmD l∣D
|[],_=>Nat.one_dvd D
|t::l,h=>Nat.lcm_dvd (h t (by simp)) (lcmD_dvd fun u hu=>h u (by simp [hu]))
theorem bits_le {n b:Nat} (h:n<=2 ^ b):nbits n<=b+1:=nbits_le (Nat.lt_of_le_of_lt h (Nat.pow_lt_pow_right (by omega) (by omega)))
theorem bdB_of {d:Nat->Nat} {b D H:Nat} {l:List Trm} (hx:∀ t∈l,InB d t.1) (hd:bx d<=10000) (hl:l.length<=10000) (hD:0<D) (hD2:D<=2 ^ b) (hH:H<=2 ^ b) (hv:∀ t∈l,Dv D t.2) (ha:(D:Rat)*asum l<=(H:Rat)) (hb:b<LB):bdB l=true:=by
 simp only [bdB,Bool.and_eq_true,decide_eq_true_eq,List.all_eq_true];have hbx:=bx_ge d;refine⟨⟨⟨hl,fun t ht=>?_⟩,?_⟩,?_⟩
 ·obtain⟨h0,h1,h2,h3,n0,n1,n2,n3⟩:=(hx t ht).parts;exact⟨⟨⟨⟨⟨⟨⟨by omega,by omega⟩,by omega⟩,by omega⟩,by omega⟩,by omega⟩,by omega⟩,by omega⟩
 ·have h1:lcmD l∣D:=lcmD_dvd fun t ht=>(num_dv hD (hv t ht)).1;have h2:=nbits_mono (Nat.le_trans (Nat.le_of_dvd hD h1) hD2);have h3:=bits_le (Nat.le_refl (2 ^ b));omega
 ·have h1:=(num_dv hD (asum_dv hv)).2;rw [rabs_of_pos (asum_nonneg l),Q.rabs_int] at h1;have h2:numB l<=H:=Rat.natCast_le_natCast.1 (Rat.le_trans h1 ha);have h3:=bits_le (Nat.le_trans h2 hH);omega
theorem wp_of {d:Nat->Nat} {b:Nat} {p:MP} (h:Dg d p) (hi:In b p) (hd:bx d<=10000) (hb:b<LB):wpB p.l=true:=by
 obtain⟨D,H,h1,h2,h3,h4⟩:=hi;rw [wpB,Bool.and_eq_true];exact⟨vldB_vld.2 p.v,bdB_of h.inB hd (Nat.le_trans h.len hd) h1 h2 h3 h4.d h4.a hb⟩
theorem g1_of {p:MP} (h:wpB p.l=true):g1 p.l=some p.l:=by rw [g1,if_pos h]
theorem normO_ex {d:Nat->Nat} {b:Nat} {p:MP} (h:Dg d p) (hi:In b p) (hd:bx d<=10000) (hb:b<LB):normO p.l=some (nrm p).l:=by
 by_cases h0:p=0
 ·rw [h0,nrm_zero];rfl
 ·have h1:=wp_of (h.dvd h0 (nrm_dvd h0).1) hi.nrm hd hb;obtain⟨t,l,e⟩:=head_ex h0;have e2:(nrm p).l=scaleP p.l (1 / t.2):=by rw [nrm,hd_eq e,c_mul_l]
  have h2:=g1_of h1;rw [e2] at h2 ⊢;rw [e] at h2 ⊢;exact h2
theorem divO_exact {g:Trm} {ts:List Trm} (hv:Vld (g::ts)):∀ (s out:List Trm) (n:Nat),Vld s->(∀ x r,x::r <:+ s->wpB (mulP (x::r) (g::ts))=true/\wpB [x]=true)->s.length+1<=n->divO (g::ts) g n (mulP s (g::ts)) out=some (some (out++s))
|[],out,n,_,_,hn=>by
  obtain⟨n,rfl⟩:∃ m,n=m+1:=⟨n - 1,by simp at hn;omega⟩;rw [show mulP [] (g::ts)=[] from rfl,divO,List.append_nil]
|x::s,out,n,hs,hw,hn=>by
  obtain⟨n,rfl⟩:∃ m,n=m+1:=⟨n - 1,by simp at hn;omega⟩;have hz:=(hv.2 g (by simp)).1;have hx:=hs.2 x (by simp);obtain⟨h1,h2⟩:=mul_top hs hv;obtain⟨a,ha⟩:=head_is (Vld.mul _ _) (rmul_ne hx.1 hz) h1 h2;obtain⟨w1,w2⟩:=hw x s (List.suffix_refl _);have ih:=divO_exact hv s (out++[x]) n hs.tail (fun y r hr=>hw y r (hr.trans (List.suffix_cons x s))) (by simp at hn;omega);have h3:=sub_back hs hv Vld.nil;rw [addP_nil (Vld.mul _ _),addP_nil (Vld.mul _ _)] at h3;rw [ha] at w1 h3 ⊢;have h4:=quo_back (x:=x) hz;have h5:((x.1.add g.1).sub g.1)=x.1:=congrArg Prod.fst h4;rw [divO,if_pos w1,if_pos (by show ((x.1.add g.1).sub g.1).nat=true;rw [h5];exact hx.2),h4,if_pos w2,h3,ih];simp
theorem overO_ex {d:Nat->Nat} {b k:Nat} {a q z:MP} (z0:z≠0) (e:a=q*z) (hd:Dg d a) (hx:bx d<=10000) (hq:In b q) (hz:In k z) (hb:b+k<LB):overO a.l z.l=some q.l:=by
 obtain⟨g,ts,hl⟩:=head_ex z0;by_cases q0:q=0
 ·have ha:a=0:=by rw [e,q0];grind
  rw [ha,q0,overO,hl];rfl
 have a0:a≠0:=by rw [e];exact mul_ne q0 z0
 have hdq:Dg d q:=hd.dvd a0 ⟨z,e⟩;have hdz:Dg d z:=hd.dvd a0 ⟨q,by rw [e];grind⟩;have hdeg:∀ w,q.deg w+z.deg w=a.deg w:=fun w=>by rw [e,deg_mul q0 z0]
 have key:=divO_exact (hl ▸ z.v) q.l [] fuel q.v (fun x r hr=>by
  have hv:Vld (x::r):=q.v.sublist hr.sublist;have hp:In b (⟨x::r,hv⟩:MP):=hq.part hr.sublist
  have hdp:∀ w,(⟨x::r,hv⟩:MP).deg w<=q.deg w:=fun w=>by
   rcases (foldl_max (fun t=>t.1.get w) (x::r) (-1)).2.2 with e|⟨t,ht,e⟩
   ·show degP (x::r) w<=_;unfold degP;rw [e];exact deg_ge w q
   ·show degP (x::r) w<=_;unfold degP;rw [<- e];exact degP_le (hr.sublist.subset ht) w
  have hne:(⟨x::r,hv⟩:MP)≠0:=fun h=>by have:=zero_iff.1 h;cases this
  refine⟨?_,?_⟩
  ·have h1:=wp_of (d:=d) (p:=(⟨x::r,hv⟩:MP)*z) (fun w hw=>by
    rw [deg_mul hne z0];have:=hdeg w;have:=hdp w;have:=hd w hw;omega) (hp.mul hz) hx hb
   rw [<- hl];exact h1
  ·have hvx:Vld [x]:=hv.sublist (List.singleton_sublist.2 (by simp))
   exact wp_of (d:=d) (p:=(⟨[x],hvx⟩:MP)) (fun w hw=>by
    show degP [x] w<=_;have h1:=degP_le (hr.sublist.subset (show x∈x::r by simp)) w;have h2:=hdq w hw;have h3:q.deg w=degP q.l w:=rfl;show max (-1) (x.1.get w)<=_
    omega) (hp.part (q:=⟨[x],hvx⟩) (List.singleton_sublist.2 (by simp))) hx (by omega))
  (by have:=hdq.len;unfold fuel;omega)
 have e2:a.l=mulP q.l (g::ts):=by rw [e,<- hl];rfl
 rw [overO,hl,e2];simp only [divW,key,List.nil_append,Option.getD_some];exact g1_of (wp_of hdq hq hx (by omega))
end Q
end
section
namespace Q
open MP Go.Proofs.YtopclbeomcggiaaGreat
def wt (B:Int) (e:Ex):Int:=e.1+B*(e.2.1+B*(e.2.2.1+B*e.2.2.2))
theorem wt_add (B:Int) (e f:Ex):wt B (e.add f)=wt B e+wt B f:=by simp only [wt,Ex.add];grind
theorem wt_sub (B:Int) (e f:Ex):wt B (e.sub f)=wt B e-wt B f:=by simp only [wt,Ex.sub];grind
theorem hstep {B x x' h h':Int} (hB:0<=B) (hx:x<=B-1) (hx':0<=x') (hlt:h<h'):x+B*h<x'+B*h':=by
 have:=Int.mul_le_mul_of_nonneg_left (show h+1<=h' by omega) hB;rw [Int.mul_add,Int.mul_one] at this;omega
theorem hle {B x h H:Int} (hB:0<=B) (hx:x<=B-1) (hh:h<=H-1):x+B*h<=B*H-1:=by
 have:=Int.mul_le_mul_of_nonneg_left (show h+1<=H by omega) hB;rw [Int.mul_add,Int.mul_one] at this;omega
theorem wt_lt {v d:Nat} {g u:Ex} (hg:g.nat=true) (hu:u.nat=true) (hd:∀ w,w<v->u.get w<=d) (hz:∀ w,v<w->w<4->u.get w=0/\g.get w=0) (h:g.gt u=true):wt ((d:Int)+1) u<wt ((d:Int)+1) g:=by
 rw [Ex.gt_iff] at h;rw [Ex.nat_iff] at hg hu;have d0:=hd 0;have d1:=hd 1;have d2:=hd 2;have z1:=hz 1;have z2:=hz 2;have z3:=hz 3;simp only [Ex.get] at d0 d1 d2 z1 z2 z3;have hB:(0:Int)<=(d:Int)+1:=by omega
 unfold wt;rcases h with h|⟨e3,h|⟨e2,h|⟨e1,h⟩⟩⟩
 ·have hv:3<=v:=by
   rcases Nat.lt_or_ge v 3 with h'|h'
   ·have:=z3 h' (by omega);omega
   ·exact h'
  exact hstep hB (by have:=d0 (by omega);omega) (by omega) (hstep hB (by have:=d1 (by omega);omega) (by omega) (hstep hB (by have:=d2 (by omega);omega) (by omega) h))
 ·have hv:2<=v:=by
   rcases Nat.lt_or_ge v 2 with h'|h'
   ·have:=z2 h' (by omega);omega
   ·exact h'
  rw [e3];exact hstep hB (by have:=d0 (by omega);omega) (by omega) (hstep hB (by have:=d1 (by omega);omega) (by omega) (by omega))
 ·have hv:1<=v:=by
   rcases Nat.lt_or_ge v 1 with h'|h'
   ·have:=z1 h' (by omega);omega
   ·exact h'
  rw [e3,e2];exact hstep hB (by have:=d0 (by omega);omega) (by omega) (by omega)
 ·rw [e3,e2,e1];omega
def wtM (v d M:Nat):Nat:=(M+1)*(d+1) ^ v
theorem wt_le {v d M:Nat} {e:Ex} (hv:v<4) (hd:∀ w,w<v->e.get w<=d) (hm:e.get v<=M) (hz:∀ w,v<w->w<4->e.get w=0):wt ((d:Int)+1) e<=(wtM v d M:Nat):=by
 have d0:=hd 0;have d1:=hd 1;have d2:=hd 2;have z1:=hz 1;have z2:=hz 2;have z3:=hz 3;simp only [Ex.get] at d0 d1 d2 z1 z2 z3;have hB:(0:Int)<=(d:Int)+1:=by omega
 have e1:((wtM v d M:Nat):Int)=((M:Int)+1)*((d:Int)+1) ^ v:=by
  unfold wtM;rw [Int.natCast_mul,Int.natCast_pow];rfl
 rw [e1];unfold wt;obtain rfl|rfl|rfl|rfl:v=0\/v=1\/v=2\/v=3:=by omega
 ·simp only [Ex.get] at hm;rw [z1 (by omega) (by omega),z2 (by omega) (by omega),z3 (by omega) (by omega),Int.mul_zero,Int.add_zero,Int.mul_zero,Int.add_zero,Int.mul_zero,Int.add_zero,Int.pow_zero,Int.mul_one];omega
 ·simp only [Ex.get] at hm;rw [z2 (by omega) (by omega),z3 (by omega) (by omega),Int.mul_zero,Int.add_zero,Int.mul_zero,Int.add_zero];have:=hle (h:=e.2.1) (H:=(M:Int)+1) hB (show e.1<=_ by have:=d0 (by omega);omega) (by omega);have e2:((M:Int)+1)*((d:Int)+1) ^ 1=((d:Int)+1)*((M:Int)+1):=by grind
  rw [e2];omega
 ·simp only [Ex.get] at hm;rw [z3 (by omega) (by omega),Int.mul_zero,Int.add_zero];have h1:=hle (h:=e.2.2.1) (H:=(M:Int)+1) hB (show e.2.1<=_ by have:=d1 (by omega);omega) (by omega);have h2:=hle hB (show e.1<=_ by have:=d0 (by omega);omega) h1;have e2:((M:Int)+1)*((d:Int)+1) ^ 2=((d:Int)+1)*(((d:Int)+1)*((M:Int)+1)):=by grind
  rw [e2];omega
 ·simp only [Ex.get] at hm;have h1:=hle (h:=e.2.2.2) (H:=(M:Int)+1) hB (show e.2.2.1<=_ by have:=d2 (by omega);omega) (by omega);have h2:=hle hB (show e.2.1<=_ by have:=d1 (by omega);omega) h1;have h3:=hle hB (show e.1<=_ by have:=d0 (by omega);omega) h2;have e2:((M:Int)+1)*((d:Int)+1) ^ 3=((d:Int)+1)*(((d:Int)+1)*(((d:Int)+1)*((M:Int)+1))):=by grind
  rw [e2];omega
def wbx (v d W:Nat) (w:Nat):Nat:=if w<=v then W / (d+1) ^ w else 0
theorem wt_ge {B:Int} (hB:0<=B) {e:Ex} (he:e.nat=true):e.1<=wt B e/\e.2.1*B<=wt B e/\e.2.2.1*B ^ 2<=wt B e/\e.2.2.2*B ^ 3<=wt B e:=by
 rw [Ex.nat_iff] at he;obtain⟨h0,h1,h2,h3⟩:=he;have a1:=Int.mul_nonneg hB h1;have a2:=Int.mul_nonneg hB (Int.mul_nonneg hB h2);have a3:=Int.mul_nonneg hB (Int.mul_nonneg hB (Int.mul_nonneg hB h3));have e1:wt B e=e.1+B*e.2.1+B*(B*e.2.2.1)+B*(B*(B*e.2.2.2)):=by unfold wt;grind
 have e2:e.2.1*B=B*e.2.1:=Int.mul_comm _ _;have e3:e.2.2.1*B ^ 2=B*(B*e.2.2.1):=by grind
 have e4:e.2.2.2*B ^ 3=B*(B*(B*e.2.2.2)):=by grind
 rw [e1,e2,e3,e4];omega
theorem wbx_in {v d W:Nat} {e:Ex} (he:e.nat=true) (hw:wt ((d:Int)+1) e<=W) (hz:∀ w,v<w->w<4->e.get w=0):InB (wbx v d W) e:=by
 refine⟨he,fun w h4=>?_⟩;unfold wbx;split
 ·have hn:=Ex.nat_get he w;obtain⟨k,hk⟩:∃ k:Nat,e.get w=k:=⟨(e.get w).toNat,by omega⟩;rw [hk];refine Int.ofNat_le.2 ((Nat.le_div_iff_mul_le (Nat.pow_pos (by omega))).2 ?_);refine Int.ofNat_le.1 (Int.le_trans ?_ hw);obtain⟨g0,g1,g2,g3⟩:=wt_ge (B:=(d:Int)+1) (by omega) he;have e5:((k*(d+1) ^ w:Nat):Int)=e.get w*((d:Int)+1) ^ w:=by rw [hk,Int.natCast_mul,Int.natCast_pow];rfl
  rw [e5];obtain rfl|rfl|rfl|rfl:w=0\/w=1\/w=2\/w=3:=by omega
  ·rw [Int.pow_zero,Int.mul_one];exact g0
  ·rw [show ((d:Int)+1) ^ 1=(d:Int)+1 by grind];exact g1
  ·exact g2
  ·exact g3
 ·rw [hz w (by omega) h4];omega
theorem In.inv {b:Nat} {p:MP} (h:In b p) (h0:p≠0):In b (c (1 / Q.hd p)):=by
 obtain⟨D,H,h1,h2,h3,h4⟩:=h
 obtain⟨z,hz⟩:∃ z:Int,Q.hd p*(D:Rat)=(z:Rat):=by
  obtain⟨t,ht,e⟩:=hd_mem h0;rw [e];exact h4.d t ht
 have hD0:(D:Rat)≠0:=nat_ne h1;have hh:=hd_ne h0;have hd1:=hd_div h0
 have hz0:z≠0:=fun e=>by
  rw [e] at hz;exact rmul_ne hh hD0 hz
 have hrz:((z.natAbs:Nat):Rat)=rabs (z:Rat):=(Q.rabs_int z).symm
 have hzH:z.natAbs<=H:=by
  have e1:=Rat.mul_le_mul_of_nonneg_left (hd_am h0) (nr_nonneg D);have e2:rabs (z:Rat)=(D:Rat)*rabs (Q.hd p):=by rw [<- hz,rabs_mul,rabs_of_pos (nr_nonneg D)];grind
  have e3:((z.natAbs:Nat):Rat)<=(H:Rat):=by rw [hrz,e2];exact Rat.le_trans e1 h4.a
  exact Rat.natCast_le_natCast.1 e3
 refine⟨z.natAbs,D,by omega,by omega,h2,dv_c ?_,?_⟩
 ·rcases Int.natAbs_eq z with e|e
  ·refine⟨D,?_⟩;rw [<- Rat.intCast_natCast,<- e,<- hz,Rat.intCast_natCast];grind
  ·refine⟨-D,?_⟩;rw [<- Rat.intCast_natCast,show ((z.natAbs:Nat):Int)=-z by omega,Rat.intCast_neg,Rat.intCast_neg,<- hz,Rat.intCast_natCast];grind
 ·rw [am_c,hrz,<- hz,rabs_mul,rabs_of_pos (nr_nonneg D)];have e5:rabs (Q.hd p)*rabs (1 / Q.hd p)=1:=by rw [<- rabs_mul,hd1];exact rabs_one
  have:rabs (Q.hd p)*(D:Rat)*rabs (1 / Q.hd p)=(rabs (Q.hd p)*rabs (1 / Q.hd p))*(D:Rat):=by grind
  rw [this,e5,Rat.one_mul];exact Rat.le_refl
def mono1 (e:Ex) (h:e.nat=true):MP:=⟨[(e,1)],vld_one h (by decide)⟩
theorem mono1_ind (e:Ex) (h:e.nat=true):Ind 1 1 (mono1 e h):=by
 refine⟨fun t ht=>by rw [List.mem_singleton.1 ht];exact Dv.int 1 1,?_⟩;show ((1:Nat):Rat)*(rabs 1+0)<=((1:Nat):Rat);rw [rabs_one,Rat.add_zero,Rat.mul_one];exact Rat.le_refl
theorem quo_eq {e:Ex} (h:e.nat=true) {r:Rat} (hr:r≠0) (hv:Vld [(e,r)]):(⟨[(e,r)],hv⟩:MP)=c r*mono1 e h:=by
 refine MP.eq_of ?_;rw [c_mul_l];show [(e,r)]=scaleP [(e,1)] r;rw [scaleP,if_neg hr];show [(e,r)]=[(e,1*r)];rw [Rat.one_mul]
theorem divO_ex {v d W b0 bz:Nat} {z:MP} {g:Trm} {ts:List Trm} (hl:z.l=g::ts) (hzd:∀ t∈z.l,(∀ w,w<v->t.1.get w<=d)/\∀ w,v<w->w<4->t.1.get w=0) (hz:In bz z) {dB:Nat->Nat} (hB:∀ e:Ex,e.nat=true->wt ((d:Int)+1) e<=W->(∀ w,v<w->w<4->e.get w=0)->InB dB e) (hbx:bx dB<=10000) (hlb:b0+bz+(bx dB+1)*(bz+1)<LB) :
  ∀ (n:Nat) (a:MP) (out:List Trm) (S:List Ex),S.Nodup->(∀ e∈S,InB dB e)->(∀ e∈S,∀ t∈a.l,e.gt t.1=true)->(∀ t∈a.l,wt ((d:Int)+1) t.1<=W/\∀ w,v<w->w<4->t.1.get w=0)->In (b0+S.length*(bz+1)) a->bx dB+1<=n+S.length->∃ r,divO (g::ts) g n a.l out=some r
|0,a,out,S,hS,hSb,_,_,_,hn=>by have:=box_len hS hSb;omega
|n+1,a,out,S,hS,hSb,hSg,ha,hi,hn=>by
  have z0:z≠0:=fun h=>by have:=zero_iff.1 h;rw [hl] at this;cases this
  have hz0:g.2≠0:=(z.v.2 g (by rw [hl];simp)).1;have hgz:g∈z.l:=by rw [hl];simp
  cases ea:a.l with
 |nil=>exact⟨_,by rw [divO]⟩
 |cons m a' =>
   have hma:m∈a.l:=by rw [ea];simp
   have a0:a≠0:=fun h=>by have:=zero_iff.1 h;rw [ea] at this;cases this
   have hm:=ha m hma;have hmn:=(a.v.2 m hma).2;have hmB:=hB m.1 hmn hm.1 hm.2;have hS':(m.1::S).Nodup:=List.nodup_cons.2 ⟨fun h=>(by have:=hSg _ h m hma;rw [Ex.gt_irrefl] at this;cases this),hS⟩
   have hSb':∀ e∈m.1::S,InB dB e:=fun e he=>by
    rcases List.mem_cons.1 he with rfl|he
    ·exact hmB
    ·exact hSb e he
   have hlen:=box_len hS' hSb';rw [List.length_cons] at hlen;have hmul:=Nat.mul_le_mul_right (bz+1) (show S.length+1<=bx dB+1 by omega);rw [Nat.add_mul S.length,Nat.one_mul] at hmul;have hw1:=wp_of (dg_of fun t ht=>hB t.1 (a.v.2 t ht).2 (ha t ht).1 (ha t ht).2) hi hbx (by omega);rw [ea] at hw1;rw [divO,if_pos hw1];by_cases hq:(m.1.sub g.1).nat=true
   ·rw [if_pos hq];have va:Vld (m::a'):=ea ▸ a.v;have hqv:=quoT_val va hz0 hq;have hmz:m.2≠0:=(a.v.2 m hma).1;have hzi:hd z=g.2:=hd_eq hl;have hdm:hd a=m.2:=hd_eq ea
    have hinv:(1:Rat) / g.2≠0:=fun h=>by
     have:=hd_div z0;rw [hzi,h] at this;grind
    have eqr:m.2 / g.2=m.2*(1 / g.2):=by
     have h1:=Rat.div_mul_cancel (a:=1) hz0;have h2:=Rat.div_mul_cancel (a:=m.2) hz0;have h3:(m.2 / g.2-m.2*(1 / g.2))*g.2=0:=by grind
     rcases Rat.mul_eq_zero.1 h3 with h|h
     ·grind
     ·exact absurd h hz0
    have et:(⟨[quoT m g],hqv⟩:MP)=c (hd a)*(c (1 / hd z)*mono1 _ hq):=by
     have hvv:Vld [(m.1.sub g.1,m.2*(1 / g.2))]:=by rw [<- eqr];exact hqv
     have:=quo_eq hq (rmul_ne hmz hinv) hvv;rw [hzi,hdm];have e2:c (m.2*(1 / g.2))=c m.2*c (1 / g.2):=(c_mul _ _).symm;rw [e2] at this;have e3:(⟨[quoT m g],hqv⟩:MP)=⟨[(m.1.sub g.1,m.2*(1 / g.2))],hvv⟩:=MP.eq_of (congrArg (fun x=>[(m.1.sub g.1,x)]) eqr);rw [e3,this];grind
    have hit:In (b0+S.length*(bz+1)+(bz+0)) (⟨[quoT m g],hqv⟩:MP):=by
     rw [et];exact (hi.hd a0).mul ((hz.inv z0).mul ⟨1,1,by omega,Nat.le_refl _,Nat.le_refl _,mono1_ind _ hq⟩)
    have hw2:=wp_of (d:=dB) (p:=(⟨[quoT m g],hqv⟩:MP)) (dg_of fun t ht=>by
     rw [List.mem_singleton.1 ht];refine⟨hq,fun w hw=>?_⟩;have h1:=hmB.2 w hw;have h2:=Ex.nat_get (z.v.2 g hgz).2 w;show (m.1.sub g.1).get w<=_
     have h3:(m.1.sub g.1).get w=m.1.get w-g.1.get w:=by
      rcases w with _|_|_|w <;> rfl
     omega) hit hbx (by omega)
    rw [if_pos hw2];obtain⟨t,ht⟩:∃ t:MP,t=⟨[quoT m g],hqv⟩:=⟨_,rfl⟩
    have e2:subP (m::a') (mulP (g::ts) [quoT m g])=(a-z*t).l:=by
     rw [ht,<- ea,<- hl];rfl
    have e3:(a-z*t).l=canon (rndL a' ts (quoT m g)):=by rw [<- e2];exact rnd_eq hmn hz0
    rw [e2]
    have hP:∀ u∈(a-z*t).l,m.1.gt u.1=true/\wt ((d:Int)+1) u.1<=W/\∀ w,v<w->w<4->u.1.get w=0:=by
     rw [e3];refine canon_ex (P:=fun e=>m.1.gt e=true/\wt ((d:Int)+1) e<=W/\∀ w,v<w->w<4->e.get w=0) fun u hu=>?_;rcases List.mem_append.1 hu with hu|hu
     ·exact⟨va.1.head u hu,ha u (by rw [ea];simp [hu])⟩
     ·obtain⟨s,hs,rfl⟩:=List.mem_map.1 hu;have hsz:s∈z.l:=by rw [hl];simp [hs]
      have hgs:g.1.gt s.1=true:=(hl ▸ z.v:Vld (g::ts)).1.head s hs;have h1:=hgs
      have h2:m.1=(m.1.sub g.1).add g.1:=by
       simp only [Ex.add,Ex.sub];refine Ex.ext' ?_ ?_ ?_ ?_ <;> simp only <;> omega
      have h3:(s.1.add (m.1.sub g.1))=(m.1.sub g.1).add s.1:=Ex.add_comm _ _;refine⟨?_,?_,fun w h1 h4=>?_⟩
      ·show m.1.gt (s.1.add (m.1.sub g.1))=true;rw [h3];rw [<- Ex.gt_add (m.1.sub g.1),<- h2] at h1;exact h1
      ·show wt _ (s.1.add (m.1.sub g.1))<=_;have h5:=wt_lt (z.v.2 g hgz).2 (z.v.2 s hsz).2 (hzd s hsz).1 (fun w h1 h2=>⟨(hzd s hsz).2 w h1 h2,(hzd g hgz).2 w h1 h2⟩) hgs;rw [wt_add,wt_sub];have:=hm.1;omega
      ·show (s.1.add (m.1.sub g.1)).get w=0;have h6:=(hzd s hsz).2 w h1 h4;have h7:=(hzd g hgz).2 w h1 h4;have h8:=hm.2 w h1 h4
       have h9:(m.1.sub g.1).get w=m.1.get w-g.1.get w:=by
        rcases w with _|_|_|w <;> rfl
       rw [Ex.get_add];omega
    have hi2:In (b0+(m.1::S).length*(bz+1)) (a-z*t):=by
     obtain⟨D,H,h1,h2,h3,h4⟩:=hi;obtain⟨L,K,k1,k2,k3,k4⟩:=hz.nrm;have e4:z*t=c (hd a)*(mono1 _ hq*nrm z):=by rw [ht,et,nrm];grind
     have i1:=(h4.hd a0).mul ((mono1_ind _ hq).mul k4);rw [Nat.one_mul,Nat.one_mul,<- e4] at i1;have i2:=(h4.up L).sub i1
     have hpw:2 ^ (b0+(m.1::S).length*(bz+1))=2 ^ (b0+S.length*(bz+1))*2 ^ bz*2:=by
      rw [List.length_cons,Nat.add_mul,Nat.one_mul,<- Nat.add_assoc,<- Nat.add_assoc,Nat.pow_succ,Nat.pow_add]
     have p1:=Nat.mul_le_mul h2 k2;have p2:=Nat.mul_le_mul h3 k2;have p3:=Nat.mul_le_mul h3 k3;exact⟨D*L,H*L+H*K,Nat.mul_pos h1 k1,by omega,by omega,i2⟩
    exact divO_ex hl hzd hz hB hbx hlb n (a-z*t) (out++[quoT m g]) (m.1::S) hS' hSb' (fun e he u hu=>by
     rcases List.mem_cons.1 he with rfl|he
     ·exact (hP u hu).1
     ·exact Ex.gt_trans (hSg e he m hma) (hP u hu).1) (fun u hu=>(hP u hu).2) hi2 (by rw [List.length_cons];omega)
   ·rw [if_neg hq];exact⟨_,rfl⟩
theorem divW_ex {v d M b0 bz:Nat} {a z:MP} (hv:v<4) (z0:z≠0) (ha:∀ w,w<v->a.deg w<=d) (hav:a.deg v<=M) (hz:∀ w,w<v->z.deg w<=d) (la:a.lo (v+1)) (lz:z.lo (v+1)) (ia:In b0 a) (iz:In bz z)
  (hbx:bx (wbx v d (wtM v d M))<=10000) (hlb:b0+bz+(bx (wbx v d (wtM v d M))+1)*(bz+1)<LB):∃ r,divW a.l z.l=some r:=by
 obtain⟨g,ts,hl⟩:=head_ex z0;have hd:∀ (p:MP) (w:Nat) (k:Int),p.deg w<=k->∀ t∈p.l,t.1.get w<=k:=fun p w k h t ht=>Int.le_trans (degP_le ht w) h
 obtain⟨r,hr⟩:=divO_ex (v:=v) (d:=d) (W:=wtM v d M) (b0:=b0) (dB:=wbx v d (wtM v d M)) hl (fun t ht=>⟨fun w hw=>hd z w d (hz w hw) t ht,fun w h1 h2=>fr_get (lz w h1 h2) ht⟩) iz
  (fun e he hw h=>wbx_in he hw h) hbx hlb fuel a [] [] List.nodup_nil (fun e h=>by cases h) (fun e h=>by cases h)
  (fun t ht=>by
   have hzr:∀ w,v<w->w<4->t.1.get w=0:=fun w h1 h2=>fr_get (la w h1 h2) ht
   exact⟨wt_le hv (fun w hw=>hd a w d (ha w hw) t ht) (hd a v M hav t ht) hzr,hzr⟩)
  (by simpa using ia) (by unfold fuel;simp only [List.length_nil];omega)
 exact⟨r,by rw [hl];exact hr⟩
end Q
end
section
namespace Q
open MP Go.Proofs.YtopclbeomcggiaaGreat
def bxf (v x t:Nat) (w:Nat):Nat:=if w<v then x else if w=v then t else 0
theorem bxf_bx {v x t:Nat} (hv:v<4):bx (bxf v x t)=(t+1)*(x+1) ^ v:=by
 obtain rfl|rfl|rfl|rfl:v=0\/v=1\/v=2\/v=3:=by omega
 ·simp [bx,bxf]
 ·simp [bx,bxf,Nat.mul_comm]
 ·simp [bx,bxf,Nat.pow_succ,Nat.mul_comm]
 ·simp [bx,bxf,Nat.pow_succ,Nat.mul_comm]
theorem dg_bxf {v x t:Nat} {p:MP} (lp:p.lo (v+1)) (hx:∀ w,w<v->p.deg w<=x) (ht:p.deg v<=t):Dg (bxf v x t) p:=fun w hw=>by
 unfold bxf;split
 ·exact hx w (by assumption)
 ·split
  ·rename_i e;rw [e];exact ht
  ·have h:p.deg w<=0:=lp w (by omega) hw;exact h
theorem Dg.lo {v x t:Nat} {p:MP} (h:Dg (bxf v x t) p):p.lo (v+1):=fun w h1 h2=>by
 have:=h w h2;rw [bxf,if_neg (by omega),if_neg (by omega)] at this;exact this
theorem Dg.lo0 {v x:Nat} {p:MP} (h:Dg (bxf v x 0) p):p.lo v:=fun w h1 h2=>by
 have:=h w h2;rw [bxf,if_neg (by omega)] at this;have e:(if w=v then 0 else 0)=0:=by split <;> rfl
 rw [e] at this;exact this
theorem Dg.low {v x t:Nat} (hv:v<4) {p:MP} (h:Dg (bxf v x t) p):∀ w,w<v->p.deg w<=x:=fun w hw=>by
 have:=h w (by omega);rwa [bxf,if_pos hw] at this
theorem Dg.top {v x t:Nat} (hv:v<4) {p:MP} (h:Dg (bxf v x t) p):p.deg v<=t:=by
 have:=h v hv;rwa [bxf,if_neg (by omega),if_pos rfl] at this
def RowOk (D H:Nat) (d:Nat->Nat) (l:List Trm):Prop:=∃ p:MP,p.l=l/\Ind D H p/\Dg d p
theorem RowOk.nil (D H:Nat) (d:Nat->Nat):RowOk D H d []:=⟨0,rfl,Ind.zero D H,fun w _=>by rw [deg_zero];omega⟩
theorem RowOk.get {D H:Nat} {d:Nat->Nat} {L:List (List Trm)} (h:∀ c∈L,RowOk D H d c) (i:Nat):RowOk D H d (L.getD i []):=by
 rw [List.getD_eq_getElem?_getD]
 cases hi:L[i]? with
|none=>exact RowOk.nil D H d
|some c=>exact h c (List.mem_of_getElem? hi)
theorem RowOk.mul {D H D' H':Nat} {d d':Nat->Nat} {p q:List Trm} (h:RowOk D H d p) (h':RowOk D' H' d' q):RowOk (D*D') (H*H') (fun w=>d w+d' w) (mulP p q):=by
 obtain⟨a,rfl,h1,h2⟩:=h;obtain⟨b,rfl,k1,k2⟩:=h';exact⟨a*b,rfl,h1.mul k1,fun w hw=>Int.le_trans (deg_mul_le w a b (h2 w hw) (k2 w hw) (by omega)) (by simp)⟩
theorem RowOk.sub {D H H':Nat} {d:Nat->Nat} {p q:List Trm} (h:RowOk D H d p) (h':RowOk D H' d q):RowOk D (H+H') d (subP p q):=by
 obtain⟨a,rfl,h1,h2⟩:=h;obtain⟨b,rfl,k1,k2⟩:=h';exact⟨a - b,rfl,h1.sub k1,fun w hw=>by have:=deg_sub_le w a b;have:=h2 w hw;have:=k2 w hw;omega⟩
theorem RowOk.mono {D H H':Nat} {d:Nat->Nat} {p:List Trm} (h:RowOk D H d p) (hH:H<=H'):RowOk D H' d p:=by
 obtain⟨a,e,h1,h2⟩:=h;exact⟨a,e,h1.mono hH,h2⟩
theorem psStep_row {D R:List (List Trm)} {Dr Hr Db Hb:Nat} {dr db:Nat->Nat} (hD:∀ c∈D,RowOk Db Hb db c) (hR:∀ c∈R,RowOk Dr Hr dr c):∀ c∈psStep D R,RowOk (Dr*Db) (Hr*Hb+Hr*Hb) (fun w=>dr w+db w) c:=fun c hc=>by
 simp only [psStep,List.mem_map] at hc;obtain⟨i,-,rfl⟩:=hc;split
 ·exact ((RowOk.get hR _).mul (RowOk.get hD _)).sub ((RowOk.get hR _).mul (RowOk.get hD _))
 ·exact ((RowOk.get hR _).mul (RowOk.get hD _)).mono (by omega)
theorem psRun_row {D:List (List Trm)} {Da Ha Db Hb s:Nat} {da db:Nat->Nat} (hD:∀ c∈D,RowOk Db Hb db c)
  (hw:∀ j,j<=s->∀ c,RowOk (Da*Db ^ j) (Ha*(2*Hb) ^ j) (fun w=>da w+j*db w) c->wpB c=true) :
  ∀ (f j:Nat) (R:List (List Trm)),R.length+j<=s+(D.length-1)\/R.length<=D.length-1->j<=s->(∀ c∈R,RowOk (Da*Db ^ j) (Ha*(2*Hb) ^ j) (fun w=>da w+j*db w) c) ->
   psBW D f R=true/\∃ i,i<=s/\∀ c∈psRun D f R,RowOk (Da*Db ^ i) (Ha*(2*Hb) ^ i) (fun w=>da w+i*db w) c
|0,j,R,_,hj,hR=>⟨rfl,j,hj,hR⟩
|f+1,j,R,hl,hj,hR=>by
  unfold psBW psRun;split
  ·rename_i hlt;have h1:=psStep_row hD hR
   have h2:∀ c∈psStep D R,RowOk (Da*Db ^ (j+1)) (Ha*(2*Hb) ^ (j+1)) (fun w=>da w+(j+1)*db w) c:=fun c hc=>by
    have:=h1 c hc;have e1:Da*Db ^ j*Db=Da*Db ^ (j+1):=by rw [Nat.pow_succ,Nat.mul_assoc]
    have e2:Ha*(2*Hb) ^ j*Hb+Ha*(2*Hb) ^ j*Hb=Ha*(2*Hb) ^ (j+1):=by
     rw [Nat.pow_succ,<- Nat.mul_two,Nat.mul_assoc,Nat.mul_assoc,Nat.mul_comm Hb 2]
    have e3:(fun w=>da w+j*db w+db w)=fun w=>da w+(j+1)*db w:=funext fun w=>by rw [Nat.add_mul,Nat.one_mul,Nat.add_assoc]
    rw [e1,e2,e3] at this;exact this
   obtain⟨k1,k2⟩:=psRun_row hD hw f (j+1) (psStep D R) (by rw [psStep_len];omega) (by omega) h2;refine⟨?_,k2⟩;rw [Bool.and_eq_true,List.all_eq_true];exact⟨fun c hc=>hw j hj c (hR c hc),k1⟩
  ·exact⟨rfl,j,hj,hR⟩
theorem asum_shift (p:List Trm) (v:Nat) (i:Int):asum (shiftL p v i)=asum p:=by
 unfold shiftL
 induction p with
|nil=>rfl
|cons u l ih=>simp only [List.map_cons,asum,ih]
theorem fromL_size {v D H:Nat} {d:Nat->Nat} (hv:v<4) (hdv:d v=0):∀ (L:List (List Trm)) (i:Nat),(∀ c∈L,RowOk D H d c) ->
  (∀ t∈fromL v i L,(t.1.nat=true/\(∀ w,w<4->w≠v->t.1.get w<=d w)/\t.1.get v<=((i+L.length:Nat):Int))/\Dv D t.2)/\(D:Rat)*asum (fromL v i L)<=((L.length*H:Nat):Rat)/\(fromL v i L).length<=L.length*bx d
|[],i,_=>⟨fun t ht=>(by cases ht),by
   show (D:Rat)*0<=((0*H:Nat):Rat)
   rw [Rat.mul_zero];exact nr_nonneg _,by simp [fromL]⟩
|c::L,i,h=>by
  obtain⟨p,rfl,h1,h2⟩:=h c (by simp);obtain⟨k1,k2,k3⟩:=fromL_size hv hdv L (i+1) fun c hc=>h c (by simp [hc])
  have e:fromL v (i:Int) (p.l::L)=shiftL p.l v i++fromL v ((i+1:Nat):Int) L:=by
   rw [fromL];rfl
  rw [e];refine⟨fun t ht=>?_,?_,?_⟩
  ·rcases List.mem_append.1 ht with ht|ht
   ·obtain⟨u,hu,rfl⟩:=List.mem_map.1 ht;obtain⟨n1,n2⟩:=h2.inB u hu;have hu0:u.1.get v=0:=by have:=n2 v hv;have:=Ex.nat_get n1 v;omega
    refine⟨⟨Ex.put_nat n1 v (by omega),fun w hw hne=>?_,?_⟩,h1.d u hu⟩
    ·show (u.1.put v _).get w<=_;rw [Ex.get_put_ne _ hv hw (Ne.symm hne)];exact n2 w hw
    ·show (u.1.put v (u.1.get v+i)).get v<=_;rw [Ex.get_put,hu0];simp only [List.length_cons];omega
   ·obtain⟨⟨m1,m2,m3⟩,m4⟩:=k1 t ht;exact⟨⟨m1,m2,by simp only [List.length_cons];omega⟩,m4⟩
  ·rw [asum_append,asum_shift,Rat.mul_add,List.length_cons,Nat.add_mul,Nat.one_mul,Rat.natCast_add];have:=h1.a;have e3:(D:Rat)*p.am=(D:Rat)*asum p.l:=rfl;rw [e3] at this;grind
  ·have h3:=h2.len;rw [List.length_append,List.length_cons,Nat.add_mul,Nat.one_mul];have:(shiftL p.l v i).length=p.l.length:=by unfold shiftL;rw [List.length_map]
   omega
theorem pow_le_two {x a j:Nat} (h:x<=2 ^ a):x ^ j<=2 ^ (a*j):=by rw [Nat.pow_mul];exact Nat.pow_le_pow_left h j
theorem prem_size {v A al M s lM:Nat} {a b:MP} (hv:v<4) (b0:b≠0) (la:a.lo (v+1)) (lb:b.lo (v+1)) (ha:∀ w,w<v->a.deg w<=A) (hb:∀ w,w<v->b.deg w<=A) (ia:In al a) (ib:In al b)
  (hs:a.deg v+1<=b.deg v+s) (hM:b.deg v<=M) (hlM:M<=2 ^ lM) (hbx:(M+1)*((s+1)*A+1) ^ v<=10000) (hlb:(s+1)*(al+1)+lM<LB) :
  psO a.l b.l v=some (prem v a b).l/\In ((s+1)*(al+1)+lM) (prem v a b)/\(∀ w,w<v->(prem v a b).deg w<=((s+1)*A:Nat))/\(prem v a b).deg v<=M/\(prem v a b).lo (v+1):=by
 obtain⟨Da,Ha,a1,a2,a3,a4⟩:=ia;obtain⟨Db,Hb,b1,b2,b3,b4⟩:=ib
 have hrow:∀ (p:MP) (D H:Nat),p.lo (v+1)->(∀ w,w<v->p.deg w<=A)->Ind D H p->∀ c∈coeffsP p.l v,RowOk D H (bxf v A 0) c:=fun p D H lp hp hi c hc=>by
  obtain⟨n,rfl⟩:=mem_coeffsP hc;refine⟨p.co v n,rfl,hi.co v n,fun w hw=>?_⟩;unfold bxf;split
  ·exact co_deg_lt v n p hw hv (hp w (by assumption))
  ·have h1:(p.co v n).deg w<=0:=lo_co hv lp w (by omega) hw;omega
 have hdeg:=deg_pos b0 v;have lD:(coeffsP b.l v).length=(b.deg v).toNat+1:=by rw [coeffsP_length];have e:degP b.l v=b.deg v:=rfl;omega
 have lR:((coeffsP a.l v).length:Int)<=a.deg v+1:=by rw [coeffsP_length];have e:degP a.l v=a.deg v:=rfl;have:=deg_ge v a;omega
 have hbx':bx (bxf v ((s+1)*A) M)<=10000:=by rw [bxf_bx hv];exact hbx
 have hdm:∀ j,j<=s->∀ w,bxf v A 0 w+j*bxf v A 0 w<=bxf v ((s+1)*A) M w:=fun j hj w=>by
  unfold bxf;split
  ·have:=Nat.mul_le_mul_right A hj;rw [Nat.add_mul];omega
  ·split <;> simp
 have hin:∀ j,j<=s->Da*Db ^ j<=2 ^ ((s+1)*(al+1))/\Ha*(2*Hb) ^ j<=2 ^ ((s+1)*(al+1)):=fun j hj=>by
  have p1:=pow_le_two (j:=j) b2;have p2:(2*Hb) ^ j<=2 ^ ((al+1)*j):=pow_le_two (by rw [Nat.pow_succ];omega);have q1:=Nat.mul_le_mul a2 p1;have q2:=Nat.mul_le_mul a3 p2;rw [<- Nat.pow_add] at q1 q2;have r0:=Nat.mul_le_mul_left (al+1) hj;have r1:al*j<=(al+1)*j:=Nat.mul_le_mul_right _ (by omega);have r2:(s+1)*(al+1)=(al+1)*s+(al+1):=by rw [Nat.mul_comm,Nat.mul_add,Nat.mul_one]
  exact⟨Nat.le_trans q1 (Nat.pow_le_pow_right (by omega) (by omega)),Nat.le_trans q2 (Nat.pow_le_pow_right (by omega) (by omega))⟩
 have hpos:∀ j,0<Da*Db ^ j:=fun j=>Nat.mul_pos a1 (Nat.pow_pos b1)
 have hwp:∀ j,j<=s->∀ c,RowOk (Da*Db ^ j) (Ha*(2*Hb) ^ j) (fun w=>bxf v A 0 w+j*bxf v A 0 w) c->wpB c=true:=fun j hj c hc=>by
  obtain⟨p,rfl,h1,h2⟩:=hc;exact wp_of (h2.mono (hdm j hj)) ⟨_,_,hpos j,(hin j hj).1,(hin j hj).2,h1⟩ hbx' (by omega)
 obtain⟨k1,i,hi,k2⟩:=psRun_row (Da:=Da) (Ha:=Ha) (da:=bxf v A 0) (hrow b Db Hb lb hb b4) hwp (coeffsP a.l v).length 0 (coeffsP a.l v)
  (by rw [lD];omega) (by omega) (fun c hc=>by
   have:=hrow a Da Ha la ha a4 c hc;have e3:(fun w=>bxf v A 0 w+0*bxf v A 0 w)=bxf v A 0:=funext fun w=>by rw [Nat.zero_mul,Nat.add_zero]
   rw [Nat.pow_zero,Nat.pow_zero,Nat.mul_one,Nat.mul_one,e3];exact this)
 have hlen:=psRun_len (coeffsP b.l v) (coeffsP a.l v).length (coeffsP a.l v) (by omega);obtain⟨R,hR⟩:∃ R,R=psRun (coeffsP b.l v) (coeffsP a.l v).length (coeffsP a.l v):=⟨_,rfl⟩;rw [<- hR] at k2 hlen;have hRM:R.length<=M:=by rw [lD] at hlen;omega
 have hdv0:bxf v A 0 v+i*bxf v A 0 v=0:=by simp [bxf]
 obtain⟨f1,f2,f3⟩:=fromL_size hv (d:=fun w=>bxf v A 0 w+i*bxf v A 0 w) hdv0 R 0 k2
 have hL:R.length*(Ha*(2*Hb) ^ i)<=2 ^ ((s+1)*(al+1)+lM):=by
  rw [Nat.add_comm,Nat.pow_add];exact Nat.mul_le_mul (by omega) (hin i hi).2
 have hD:Da*Db ^ i<=2 ^ ((s+1)*(al+1)+lM):=Nat.le_trans (hin i hi).1 (Nat.pow_le_pow_right (by omega) (by omega))
 have hbox:∀ t∈fromL v ((0:Nat):Int) R,InB (bxf v ((s+1)*A) M) t.1:=fun t ht=>by
  obtain⟨⟨m1,m2,m3⟩,-⟩:=f1 t ht;refine⟨m1,fun w hw=>?_⟩;by_cases hwv:w=v
  ·subst hwv;rw [bxf,if_neg (by omega),if_pos rfl];omega
  ·have h6:t.1.get w<=((bxf v A 0 w+i*bxf v A 0 w:Nat):Int):=m2 w hw hwv;have h7:=hdm i hi w;omega
 have hlen2:(fromL v ((0:Nat):Int) R).length<=10000:=by
  have h1:bx (fun w=>bxf v A 0 w+i*bxf v A 0 w)<=((s+1)*A+1) ^ v:=by
   have e:(fun w=>bxf v A 0 w+i*bxf v A 0 w)=bxf v (A+i*A) 0:=funext fun w=>by
    unfold bxf;split
    ·rfl
    ·split <;> simp
   rw [e,bxf_bx hv,Nat.one_mul];exact Nat.pow_le_pow_left (by have:=Nat.mul_le_mul_right A hi;rw [Nat.add_mul s 1 A];omega) v
  have h2:=Nat.mul_le_mul hRM h1;have h3:(M+1)*((s+1)*A+1) ^ v=M*((s+1)*A+1) ^ v+((s+1)*A+1) ^ v:=by rw [Nat.add_mul,Nat.one_mul]
  omega
 have hb2:=bdB_of (b:=(s+1)*(al+1)+lM) hbox hbx' hlen2 (hpos i) hD hL (fun t ht=>(f1 t ht).2) f2 hlb;have hpl:(prem v a b).l=canon (fromL v ((0:Nat):Int) R):=by rw [hR];rfl
 have hind:Ind (Da*Db ^ i) (R.length*(Ha*(2*Hb) ^ i)) (prem v a b):=by
  refine⟨fun t ht=>?_,?_⟩
  ·rw [hpl] at ht;exact canon_dv (fun t ht=>(f1 t ht).2) t ht
  ·refine Rat.le_trans (Rat.mul_le_mul_of_nonneg_left ?_ (nr_nonneg _)) f2;show asum (prem v a b).l<=_;rw [hpl];exact canon_asum _
 have hdg:Dg (bxf v ((s+1)*A) M) (prem v a b):=dg_of fun t ht=>by
  rw [hpl] at ht;exact canon_ex (P:=InB (bxf v ((s+1)*A) M)) hbox t ht
 have hin2:In ((s+1)*(al+1)+lM) (prem v a b):=⟨_,_,hpos i,hD,hL,hind⟩;refine⟨?_,hin2,hdg.low hv,hdg.top hv,hdg.lo⟩;have hw:=wp_of hdg hin2 hbx' hlb;unfold psO;simp only;rw [<- hR,if_pos ⟨fun h=>b0 (zero_iff.2 h),k1,hb2,List.all_eq_true.2 fun c hc=>hwp i hi c (k2 c hc)⟩];have:=g1_of hw;rw [hpl] at this ⊢;exact this
end Q
end
section
namespace Q
open MP Go.Proofs.YtopclbeomcggiaaGreat
theorem prim_dvd_any {v:Nat} (hv:v<4) {z k f:MP} (lz:z.lo (v+1)) (pz:z.prim v) (hk:k.lo v) (k0:k≠0) (h:z∣k*f):z∣f:=by
 have key:∀ n:Nat,v+1+n<=4->∀ f:MP,f.lo (v+1+n)->z∣k*f->z∣f:=fun n=>by
  induction n with
 |zero=>intro _ f lf h;exact prim_dvd_of (hasGcd v (by omega)) hv lf pz hk k0 h
 |succ n ih =>
   intro hn f lf h;have hfr:z.fr (v+1+n):=lz _ (by omega) (by omega);have hkf:k.fr (v+1+n):=hk _ (by omega) (by omega);refine (dvd_iff_co hfr f).2 fun i=>ih (by omega) _ (lo_co (by omega) lf) ?_;have:=(dvd_iff_co hfr (k*f)).1 h i;rwa [co_mul_fr hkf] at this
 have e:v+1+(3-v)=4:=by omega
 exact key (3-v) (by omega) f (by rw [e];exact lo4 f) h
theorem siegel_num {u U v R d la xi H X b l2:Nat} (hu:1<=u) (huU:u<=U) (hR:0<R) (hH:H<=2 ^ b) (h2:2*U*R ^ v<=2 ^ l2) (hla:la=l2+b) (hX:X=2 ^ xi-1)
  (hc:(la+xi)*((U-1)*(R+d) ^ v)<xi*(U*R ^ v)) :
  (2*(u*R ^ v*(X*H))+1) ^ ((u-1)*(R+d) ^ v)<(X+1) ^ (u*R ^ v)/\u*R ^ v*(X*H)<=2 ^ (la+xi):=by
 have hx1:0<2 ^ xi:=Nat.pow_pos (by omega);have hX1:X+1=2 ^ xi:=by omega
 have h3:2*(u*R ^ v)*H<=2 ^ la:=by
  rw [hla,Nat.pow_add];refine Nat.mul_le_mul (Nat.le_trans ?_ h2) hH;rw [Nat.mul_assoc 2 U];exact Nat.mul_le_mul_left 2 (Nat.mul_le_mul_right _ huU)
 have h4:2*(u*R ^ v*(X*H))+1<=2 ^ (la+xi):=by
  have e1:2*(u*R ^ v*(X*H))=2*(u*R ^ v)*H*X:=by
   rw [Nat.mul_comm X H,<- Nat.mul_assoc,<- Nat.mul_assoc,<- Nat.mul_assoc]
  have h5:=Nat.mul_le_mul_right X h3;have h6:2 ^ la*X+2 ^ la=2 ^ (la+xi):=by rw [Nat.pow_add,<- hX1,Nat.mul_add,Nat.mul_one]
  have h7:0<2 ^ la:=Nat.pow_pos (by omega);rw [e1];omega
 refine⟨?_,by omega⟩
 have h5:(2*(u*R ^ v*(X*H))+1) ^ ((u-1)*(R+d) ^ v)<=2 ^ ((la+xi)*((u-1)*(R+d) ^ v)):=by
  have e:2 ^ ((la+xi)*((u-1)*(R+d) ^ v))=(2 ^ (la+xi)) ^ ((u-1)*(R+d) ^ v):=Nat.pow_mul ..;rw [e];exact Nat.pow_le_pow_left h4 _
 refine Nat.lt_of_le_of_lt h5 ?_;rw [hX1,<- Nat.pow_mul];refine Nat.pow_lt_pow_right (by omega) ?_
 have h6:(u-1)*U<=u*(U-1):=by
  rw [Nat.sub_mul,Nat.mul_sub,Nat.one_mul,Nat.mul_one];omega
 have hU:0<U:=by omega
 refine Nat.lt_of_mul_lt_mul_right (a:=U) ?_
 have h7:(la+xi)*((u-1)*(R+d) ^ v)*U<=u*((la+xi)*((U-1)*(R+d) ^ v)):=by
  have e1:(la+xi)*((u-1)*(R+d) ^ v)*U=(la+xi)*(R+d) ^ v*((u-1)*U):=by
   simp only [Nat.mul_comm,Nat.mul_left_comm,Nat.mul_assoc]
  have e2:u*((la+xi)*((U-1)*(R+d) ^ v))=(la+xi)*(R+d) ^ v*(u*(U-1)):=by
   simp only [Nat.mul_comm,Nat.mul_left_comm,Nat.mul_assoc]
  rw [e1,e2];exact Nat.mul_le_mul_left _ h6
 have h8:u*((la+xi)*((U-1)*(R+d) ^ v))<u*(xi*(U*R ^ v)):=Nat.mul_lt_mul_of_pos_left hc hu;have e3:u*(xi*(U*R ^ v))=xi*(u*R ^ v)*U:=by simp only [Nat.mul_comm,Nat.mul_left_comm,Nat.mul_assoc]
 rw [<- e3];omega
theorem member_size {v M d b R la xi l2 kap U:Nat} (hv:v<4) {p q x y z k t e:MP} (h:Sq v p q x y) (y0:y≠0) (k0:k≠0) (kf:k.lo v) (e0:e≠0) (ef:e.fr v) (hst:k*x=t*y+e*z) (hlt:z.deg v<y.deg v) (z0:z≠0) (pz:z.prim v) (lz:z.lo (v+1))
  (p0:p≠0) (q0:q≠0) (lp:p.lo (v+1)) (lq:q.lo (v+1)) (hp:∀ w,w<v->p.deg w<=d) (hq:∀ w,w<v->q.deg w<=d) (ip:In b p) (iq:In b q) (hm:p.deg v<=M) (hn:q.deg v<=M) (hyp:y.deg v<=p.deg v) (hyq:y.deg v<=q.deg v)
  (hU:2*(M:Int)+2<=U+2*y.deg v) (hR:0<R) (h2:2*U*R ^ v<=2 ^ l2) (hla:la=l2+b) (hc:(la+xi)*((U-1)*(R+d) ^ v)<xi*(U*R ^ v)) (hk:facK (bxf v (R-1+d) M) (v+1)<=2 ^ kap) :
  (∀ w,w<v->z.deg w<=((U*d:Nat):Int))/\In (la+xi+kap) (nrm z):=by
 have hz1:=deg_pos z0 v;obtain⟨m,em⟩:∃ m:Nat,p.deg v=m:=⟨(p.deg v).toNat,by omega⟩;obtain⟨n,en⟩:∃ n:Nat,q.deg v=n:=⟨(q.deg v).toNat,by omega⟩;obtain⟨K,eK⟩:∃ K:Nat,y.deg v=(K:Int)+1:=⟨(y.deg v).toNat - 1,by omega⟩;have hu:1<=m+n - 2*K:=by omega
 have huU:m+n-2*K<=U:=by omega
 refine⟨fun w hw=>?_,?_⟩
 ·obtain⟨S,T,hne,hS,hfv,hfw⟩:=small_comb (v:=v) (w:=w) hv (by omega) (by omega) (m:=m) (n:=n) (k:=K) (by omega) (by omega) (by omega) (by omega) (hp w hw) (hq w hw);obtain⟨f0,c',c0,cl,hd⟩:=h.dvd hv y0 k0 kf e0 ef hst hlt z0 (f:=S*p+T*q) (K:=(K:Int)) rfl hfv (.inr (by omega)) hne (by omega) (by omega);have h3:=dvd_deg f0 (prim_dvd_any hv lz pz cl c0 hd) w;have h4:(m+n - 2*K)*d<=U*d:=Nat.mul_le_mul_right _ huU;omega
 ·obtain⟨Dp,Hp,a1,a2,a3,a4⟩:=ip;obtain⟨Dq,Hq,b1,b2,b3,b4⟩:=iq;have dp0:(Dp:Rat)≠0:=nat_ne a1;have dq0:(Dq:Rat)≠0:=nat_ne b1
  have hap:(c (Dp:Rat)*p).am<=((2 ^ b:Nat):Rat):=by
   rw [am_cmul,rabs_of_pos (nr_nonneg _)];exact Rat.le_trans a4.a (nr_le a3)
  have haq:(c (Dq:Rat)*q).am<=((2 ^ b:Nat):Rat):=by
   rw [am_cmul,rabs_of_pos (nr_nonneg _)];exact Rat.le_trans b4.a (nr_le b3)
  obtain⟨X,hX⟩:∃ X,X=2 ^ xi - 1:=⟨_,rfl⟩;obtain⟨n1,n2⟩:=siegel_num (d:=d) hu huU hR (Nat.le_refl (2 ^ b)) h2 hla hX hc;have lP:(c (Dp:Rat)*p).lo (v+1):=lo_dvd p0 (cmul_dvd dp0 p).1 lp;have lQ:(c (Dq:Rat)*q).lo (v+1):=lo_dvd q0 (cmul_dvd dq0 q).1 lq
  obtain⟨S,T,hne,hS,hfv,hfw,hfd,hfa,hfl⟩:=siegel_comb hv lP lQ (dv_clear a4.d) (dv_clear b4.d) (m:=m) (n:=n) (k:=K) (d:=d) (by rw [deg_cmul dp0 p0];omega) (by rw [deg_cmul dq0 q0];omega) (by omega) (by omega)
   (fun w hw=>by rw [deg_cmul dp0 p0];exact hp w hw) (fun w hw=>by rw [deg_cmul dq0 q0];exact hq w hw) hap haq hR n1
  have hcomb:S*(c (Dp:Rat)*p)+T*(c (Dq:Rat)*q)=(S*c (Dp:Rat))*p+(T*c (Dq:Rat))*q:=by grind
  have hS':(S*c (Dp:Rat)).deg v<=S.deg v:=by
   have h5:(c (Dp:Rat)).deg v<=0:=fr_c _ v;have:=deg_mul_le v S (c (Dp:Rat)) (Int.le_refl _) h5 (by have:=deg_ge v S;omega);omega
  have hne':S*c (Dp:Rat)≠0\/T*c (Dq:Rat)≠0:=hne.imp (fun h=>mul_ne h (c_ne dp0)) fun h=>mul_ne h (c_ne dq0);obtain⟨f,hf⟩:∃ f,f=S*(c (Dp:Rat)*p)+T*(c (Dq:Rat)*q):=⟨_,rfl⟩;rw [<- hf] at hfv hfw hfd hfa hfl hcomb;obtain⟨f0,c',c0,cl,hd⟩:=h.dvd hv y0 k0 kf e0 ef hst hlt z0 (f:=f) (K:=(K:Int)) hcomb hfv (.inr (by omega)) hne' (by omega) (by omega);have hzf:=prim_dvd_any hv lz pz cl c0 hd
  have hif:In (la+xi) f:=by
   refine⟨1,_,by omega,Nat.one_le_two_pow,n2,hfd,?_⟩;rw [show ((1:Nat):Rat)=1 from rfl,Rat.one_mul];exact hfa
  exact hif.fac (n:=v+1) (by omega) f0 hzf hfl (dg_bxf hfl hfw (by omega)) hk
end Q
end
section
namespace Q
open MP Go.Proofs.YtopclbeomcggiaaGreat
structure LvD where
 M:Nat
 d:Nat
 b:Nat
 E:Nat
 br:Nat
 kE:Nat
 k0:Nat
 lM:Nat
 P:Nat
 R:Nat->Nat
 l2:Nat->Nat
 xi:Nat->Nat
 kap:Nat->Nat
namespace LvD
def bE (L:LvD):Nat:=L.br+L.kE
def cz (L:LvD) (v x:Nat):Nat:=if v=0 then 0 else x+L.kE
def b1 (L:LvD) (v:Nat):Nat:=if v=0 then L.b else L.b+(L.b+L.k0)
def mu (L:LvD) (v U:Nat):Nat:=if U=1 then L.b1 v else L.l2 U+L.b1 v+L.xi U+L.kap U
def U (L:LvD) (k:Nat):Nat:=2*L.M+2-2*k
end LvD
structure LvOk (v:Nat) (L:LvD):Prop where
 hv:v<4
 hlM:L.M<=2 ^ L.lM
 k0:facK (bxf v L.d L.M) (v+1)<=2 ^ L.k0
 kE:facK (bxf v L.E 0) v<=2 ^ L.kE
 mono:∀ U,U<2*L.M->1<=U->L.mu v U<=L.mu v (U+1)
 sg:∀ U,U<2*L.M+1->2<=U->0<L.R U/\2*U*L.R U ^ v<=2 ^ L.l2 U/\(L.l2 U+L.b1 v+L.xi U)*((U-1)*(L.R U+L.d) ^ v)<L.xi U*(U*L.R U ^ v)/\facK (bxf v (L.R U-1+L.d) L.M) (v+1)<=2 ^ L.kap U
 p1:(L.M+1)*(1*L.d)<=L.P/\(L.M+1)*(L.b1 v+1)+L.lM<LB
 pk:∀ k,k<L.M+1->2<=k->(k+1)*(L.U k*L.d)<=L.P/\(k+1)*(L.mu v (L.U k)+1)+L.lM<LB
 bP:(L.M+1)*(L.P+1) ^ v<=10000
 e1:L.M*(1*L.d)<=L.E/\L.M*(L.b1 v+1)+L.lM<=L.br
 ek:∀ k,k<L.M+1->3<=k->k*(L.U k*L.d)<=L.E/\k*(L.mu v (L.U k)+1)+L.lM<=L.br
 dE:L.d<=L.E/\L.b<=L.br/\L.E<=L.P/\1<=L.M
 x1:L.br+L.mu v (2*L.M)+L.cz v L.br<LB
 x2:L.b1 v+L.cz v L.b<LB
 dv:bx (wbx v L.d (wtM v L.d L.M))<=10000/\L.b1 v+L.b1 v+(bx (wbx v L.d (wtM v L.d L.M))+1)*(L.b1 v+1)<LB
 fin:L.bE+L.mu v (2*L.M)<LB
 fl:L.M+1<fuel
def Gex (d:Nat->Nat) (b:Nat) (G:List Trm->List Trm->Option (List Trm)):Prop:=∀ x y:MP,Dg d x->Dg d y->In b x->In b y->∃ r,G x.l y.l=some r
theorem nrm_one {g:MP} (h:hd g=1):nrm g=g:=by
 rw [nrm,h,show (1:Rat) / 1=1 by decide +kernel,c_one];grind
theorem div_size {v:Nat} {L:LvD} (h:LvOk v L) {x:Nat} {g f:MP} (hg:hd g=1) (f0:f≠0) (hd:g∣f) (df:Dg (bxf v L.E 0) f) (hi:In x f):Dg (bxf v L.E 0) g/\In (L.cz v x) g:=by
 have hv:=h.hv;refine⟨df.dvd f0 hd,?_⟩;unfold LvD.cz;split
 ·rename_i e;subst e;obtain⟨r,rfl⟩:=const_of (lo_dvd f0 hd df.lo0);have hr:r≠0:=fun e=>by rw [e,c_zero] at hg;cases hg
  have h1:=hd_cmul hr 1;have h2:c r*1=c r:=by grind
  rw [h2,hg,hd_one,Rat.one_mul] at h1;rw [<- h1,c_one];exact In.one 0
 ·have:=hi.fac (n:=v) (by omega) f0 hd df.lo0 df h.kE;rwa [nrm_one hg] at this
theorem cz_le {v:Nat} {L:LvD} {x:Nat} (hx:x<=L.br):L.cz v x<=L.bE:=by
 unfold LvD.cz LvD.bE;split <;> omega
def RwOk (v:Nat) (L:LvD) (x:Nat) (l:List Trm):Prop:=∃ f:MP,f.l=l/\Dg (bxf v L.E 0) f/\In x f
theorem allO_ex {v x:Nat} {L:LvD} (h:LvOk v L) (hx:x<=L.br) {G:List Trm->List Trm->Option (List Trm)} (hG:Gok G) (hX:Gex (bxf v L.E 0) L.bE G):∀ (l:List (List Trm)) (acc:MP),(∀ c∈l,RwOk v L x c) ->
  (acc=0\/(hd acc=1/\∃ f:MP,f≠0/\acc∣f/\Dg (bxf v L.E 0) f/\In x f))->∃ r,allO G acc.l l=some r
|[],acc,_,_=>⟨_,rfl⟩
|c::l,acc,hl,ha=>by
  obtain⟨f,rfl,df,hf⟩:=hl c (by simp)
  have hacc:Dg (bxf v L.E 0) acc/\In L.bE acc:=by
   rcases ha with e|⟨h1,f',f0,h2,h3,h4⟩
   ·rw [e];exact⟨fun w _=>by rw [deg_zero];omega,In.zero _⟩
   ·obtain⟨a1,a2⟩:=div_size h h1 f0 h2 h3 h4;exact⟨a1,a2.mono (cz_le hx)⟩
  obtain⟨r,hr⟩:=hX acc f hacc.1 df hacc.2 (hf.mono (by unfold LvD.bE;omega));obtain⟨g,rfl,hg⟩:=hG acc f r hr;rw [allO,hr];simp only;split
  ·exact⟨_,rfl⟩
  ·refine allO_ex h hx hG hX l g (fun c hc=>hl c (by simp [hc])) ?_;by_cases g0:g=0
   ·exact .inl g0
   ·refine .inr ⟨hg.n g0,?_⟩;by_cases f0:f=0
    ·rcases ha with e|⟨-,f',h0,h2,h3,h4⟩
     ·exact absurd (zero_dvd (hg.i.u 0 (by rw [e];exact dvd_refl 0) (by rw [f0];exact dvd_refl 0))) g0
     ·exact⟨f',h0,dvd_trans hg.i.l h2,h3,h4⟩
    ·exact⟨f,f0,hg.i.r,df,hf⟩
theorem co_row {v x:Nat} {L:LvD} (h:LvOk v L) {a:MP} (la:a.lo (v+1)) (ha:∀ w,w<v->a.deg w<=L.E) (ia:In x a) (n:Nat):Dg (bxf v L.E 0) (a.co v n)/\In x (a.co v n):=by
 refine⟨fun w hw=>?_,ia.co v n⟩;unfold bxf;split
 ·exact co_deg_lt v n a hw h.hv (ha w (by assumption))
 ·have h1:(a.co v n).deg w<=0:=lo_co h.hv la w (by omega) hw;split <;> exact h1
theorem contO_ex {v x:Nat} {L:LvD} (h:LvOk v L) (hx:x<=L.br) {G:List Trm->List Trm->Option (List Trm)} (hG:Gok G) (hX:Gex (bxf v L.E 0) L.bE G) {a:MP} (la:a.lo (v+1)) (ha:∀ w,w<v->a.deg w<=L.E) (ia:In x a) :
  ∃ g:MP,contO G a.l v=some g.l/\IsCont v g a/\(g≠0->hd g=1)/\(a≠0->Dg (bxf v L.E 0) g/\In (L.cz v x) g):=by
 obtain⟨r,hr⟩:=allO_ex h hx hG hX (coeffsP a.l v) 0 (fun c hc=>by
  obtain⟨n,e⟩:=mem_coeffsP hc;obtain⟨h1,h2⟩:=co_row h la ha ia n
  exact⟨a.co v n,e.symm,h1,h2⟩) (.inl rfl)
 obtain⟨g,rfl,hg,hn⟩:=contO_ok hG (a:=a) (v:=v) hr;refine⟨g,hr,hg,hn,fun a0=>?_⟩;have g0:=dvd_ne a0 hg.d;obtain⟨h1,h2⟩:=co_row h la ha ia (a.deg v).toNat;exact div_size h (hn g0) (lc_ne a0 v) ((dvd_iff_co hg.f a).1 hg.d _) h1 h2
theorem mu_mono {v:Nat} {L:LvD} (h:LvOk v L) {U:Nat} (h1:1<=U):∀ k:Nat,U+k<=2*L.M->L.mu v U<=L.mu v (U+k)
|0,_=>Nat.le_refl _
|k+1,hk=>Nat.le_trans (mu_mono h h1 k (by omega)) (h.mono (U+k) (by omega) (by omega))
theorem mu_le {v:Nat} {L:LvD} (h:LvOk v L) {U U':Nat} (h1:1<=U) (h2:U<=U') (h3:U'<=2*L.M):L.mu v U<=L.mu v U':=by
 have:=mu_mono h h1 (U' - U) (by omega);rwa [show U+(U' - U)=U' by omega] at this
theorem seqGo_ex {v:Nat} {L:LvD} (h:LvOk v L) {G:List Trm->List Trm->Option (List Trm)} (hG:Gok G) (hX:Gex (bxf v L.E 0) L.bE G)
  {p q:MP} (p0:p≠0) (q0:q≠0) (lp:p.lo (v+1)) (lq:q.lo (v+1)) (hp:∀ w,w<v->p.deg w<=L.d) (hq:∀ w,w<v->q.deg w<=L.d) (ip:In (L.b1 v) p) (iq:In (L.b1 v) q) (hm:p.deg v<=L.M) (hn:q.deg v<=L.M) :
  ∀ (n:Nat) (x y:MP) (U:Nat),y.deg v<n->Sq v p q x y->x.prim v->y.prim v->x.lo (v+1)->y.lo (v+1)->(∀ w,w<v->x.deg w<=((U*L.d:Nat):Int))->(∀ w,w<v->y.deg w<=((U*L.d:Nat):Int))->In (L.mu v U) x->In (L.mu v U) y ->
   1<=U->U<=2*L.M->(U=1\/((U:Int)+2*x.deg v=2*(L.M:Int)+2/\y.deg v<x.deg v))->1<=y.deg v->y.deg v<=x.deg v->x.deg v<=L.M->y.deg v<=p.deg v->y.deg v<=q.deg v ->
   ∃ s:MP,seqGo G v n x.l y.l=some s.l/\In (L.mu v (2*L.M)) s
|0,x,y,U,hlt,_,_,_,_,_,_,_,_,_,_,_,_,h1,_,_,_,_=>by omega
|n+1,x,y,U,hlt,hS,px,py,lx,ly,dx,dy,ix,iy,hU1,hU2,hUc,hy1,hyx,hxM,hyp,hyq=>by
  have hv:=h.hv;have y0:=prim_ne py;have x0:=prim_ne px;obtain⟨k,hk⟩:∃ k:Nat,x.deg v=k:=⟨(x.deg v).toNat,by omega⟩;obtain⟨j,hj⟩:∃ j:Nat,y.deg v=j:=⟨(y.deg v).toNat,by omega⟩
  have hps:(k-j+1+1)*(U*L.d)<=L.P/\(k-j+1+1)*(L.mu v U+1)+L.lM<LB:=by
   rcases hUc with e|⟨e,hlt'⟩
   ·subst e;have h1:=h.p1;have h2:=Nat.mul_le_mul_right (1*L.d) (show k-j+1+1<=L.M+1 by omega);have h3:=Nat.mul_le_mul_right (L.mu v 1+1) (show k-j+1+1<=L.M+1 by omega);have h4:L.mu v 1=L.b1 v:=if_pos rfl;rw [h4] at h3 ⊢;omega
   ·have h1:=h.pk k (by omega) (by omega);have e2:L.U k=U:=by unfold LvD.U;omega
    rw [e2] at h1;have h2:=Nat.mul_le_mul_right (U*L.d) (show k-j+1+1<=k+1 by omega);have h3:=Nat.mul_le_mul_right (L.mu v U+1) (show k-j+1+1<=k+1 by omega);omega
  obtain⟨r1,r2,r3,r4,r5⟩:=prem_size (M:=L.M) (s:=k - j+1) (lM:=L.lM) hv y0 lx ly dx dy ix iy (by omega) (by omega) h.hlM
   (Nat.le_trans (Nat.mul_le_mul_left _ (Nat.pow_le_pow_left (by have:=hps.1;omega) v)) h.bP) hps.2
  obtain⟨t,s',est,hrd⟩:=prem_spec (a:=x) y0 v;obtain⟨r,hr⟩:∃ r,r=prem v x y:=⟨_,rfl⟩;rw [<- hr] at r1 r2 r3 r4 r5 est hrd;rw [seqGo,r1];have hmuY:L.mu v U<=L.mu v (2*L.M):=mu_le h hU1 hU2 (Nat.le_refl _)
  cases er:r.l with
 |nil=>exact⟨y,rfl,iy.mono hmuY⟩
 |cons a l =>
   simp only;have rn0:r≠0:=fun e=>by rw [zero_iff.1 e] at er;cases er
   split
   ·exact⟨1,by rw [oneP_eq],In.one _⟩
   ·rename_i hd0
    have hrdeg:1<=r.deg v:=by
     have h1:=deg_pos rn0 v;have h2:r.deg v≠0:=by show degP r.l v≠0;rw [er];exact hd0
     omega
    have hpe:(k-j+1+1)*(U*L.d)<=L.E/\(k-j+1+1)*(L.mu v U+1)+L.lM<=L.br:=by
     rcases hUc with e|⟨e,hlt'⟩
     ·subst e;have h1:=h.e1;have h2:=Nat.mul_le_mul_right (1*L.d) (show k-j+1+1<=L.M by omega);have h3:=Nat.mul_le_mul_right (L.mu v 1+1) (show k-j+1+1<=L.M by omega);have h4:L.mu v 1=L.b1 v:=if_pos rfl;rw [h4] at h3 ⊢;omega
     ·have h1:=h.ek k (by omega) (by omega);have e2:L.U k=U:=by unfold LvD.U;omega
      rw [e2] at h1;have h2:=Nat.mul_le_mul_right (U*L.d) (show k-j+1+1<=k by omega);have h3:=Nat.mul_le_mul_right (L.mu v U+1) (show k-j+1+1<=k by omega);omega
    have hrE:∀ w,w<v->r.deg w<=L.E:=fun w hw=>by have:=r3 w hw;have:=hpe.1;omega
    have hrb:In L.br r:=r2.mono hpe.2;obtain⟨g,c1,c2,c3,c4⟩:=contO_ex h (Nat.le_refl _) hG hX r5 hrE hrb;obtain⟨c5,c6⟩:=c4 rn0;obtain⟨ρ,eρ,pρ,g0⟩:=cont_prim c2 rn0;have ρ0:=prim_ne pρ;have lρ:ρ.lo (v+1):=lo_of_eq g0 ρ0 eρ r5;have hgd:g.deg v=0:=fr_deg c2.f g0;have hρd:ρ.deg v=r.deg v:=by rw [eρ,deg_mul g0 ρ0,hgd];omega
    have hj2:2<=j:=by omega
    have hU':2<=L.U j/\L.U j<=2*L.M:=by unfold LvD.U;omega
    have hUj:((L.U j:Nat):Int)+2*y.deg v=2*(L.M:Int)+2:=by rw [hj];unfold LvD.U;omega
    obtain⟨s1,s2,s3,s4⟩:=h.sg (L.U j) (by omega) hU'.1;have hlc:=lc_pow_lo hv ly s';have hlc0:=pow_ne (lc_ne y0 v) s';have hst:(y.lc v) ^ s'*x=t*y+g*ρ:=by rw [<- eρ];exact est
    obtain⟨m1,m2⟩:=member_size hv hS y0 hlc0 hlc g0 c2.f hst (by omega) ρ0 pρ lρ p0 q0 lp lq hp hq ip iq hm hn hyp hyq (by omega) s1 s2 rfl s3 s4;have emu:L.l2 (L.U j)+L.b1 v+L.xi (L.U j)+L.kap (L.U j)=L.mu v (L.U j):=by rw [LvD.mu,if_neg (by omega)]
    rw [emu] at m2;have hmu2:L.mu v (L.U j)<=L.mu v (2*L.M):=mu_le h (by omega) hU'.2 (Nat.le_refl _)
    have hiρ:In (L.br+L.mu v (L.U j)) ρ:=by
     have e1:hd r=hd ρ:=by rw [eρ,hd_mul g0 ρ0,c3 g0,Rat.one_mul]
     have h2:=(hrb.hd rn0).mul m2;rwa [e1,<- nrm_back ρ0] at h2
    have hx1:=h.x1
    have hbE:bx (bxf v L.E L.M)<=10000:=by
     rw [bxf_bx hv];exact Nat.le_trans (Nat.mul_le_mul_left _ (Nat.pow_le_pow_left (by have:=h.dE.2.2.1;omega) v)) h.bP
    have hdr:Dg (bxf v L.E L.M) r:=dg_bxf r5 hrE (by omega);have hov:=overO_ex g0 (eρ.trans (mul_cm g ρ)) hdr hbE hiρ c6 (by omega);have hdρ:Dg (bxf v L.E L.M) ρ:=hdr.dvd rn0 ⟨g,eρ.trans (mul_cm g ρ)⟩;have hno:=normO_ex hdρ hiρ hbE (by omega)
    have hpo:primO G (a::l) v=some ρ.l:=by
     rw [er] at hov c1;rw [primO];simp only [c1];exact hov
    have hNρ:nrm ρ≠0:=nrm_ne ρ0
    have hNd:∀ w,(nrm ρ).deg w=ρ.deg w:=fun w=>by
     have h1:=dvd_deg ρ0 (nrm_dvd ρ0).1 w;have h2:=dvd_deg hNρ (nrm_dvd ρ0).2 w;omega
    have hhd:=hd_ne ρ0
    have hSn:Sq v p q y (nrm ρ):=by
     refine hS.step y0 hlc0 hlc (e:=g*c (hd ρ)) (mul_ne g0 (c_ne hhd)) (fr_mul c2.f (fr_c _ v)) (t:=t) ?_ (by rw [hNd];omega);rw [hst];have h1:g*c (hd ρ)*nrm ρ=g*(c (hd ρ)*nrm ρ):=by grind
     rw [h1,<- nrm_back ρ0]
    obtain⟨s,hs1,hs2⟩:=seqGo_ex h hG hX p0 q0 lp lq hp hq ip iq hm hn n y (nrm ρ) (L.U j) (by rw [hNd];omega) hSn py (prim_dvd pρ (nrm_dvd ρ0).1) ly (nrm_lo lρ)
     (fun w hw=>by
      have h1:=dy w hw;have h2:U*L.d<=L.U j*L.d:=Nat.mul_le_mul_right _ (by rcases hUc with e|⟨e,_⟩ <;> omega)
      omega)
     (fun w hw=>by rw [hNd];exact m1 w hw) (iy.mono (mu_le h hU1 (by rcases hUc with e|⟨e,_⟩ <;> omega) hU'.2)) m2 (by omega) hU'.2 (.inr ⟨hUj,by rw [hNd];omega⟩) (by rw [hNd];omega) (by rw [hNd];omega) (by omega) (by rw [hNd];omega) (by rw [hNd];omega)
    refine⟨s,?_,hs2⟩;rw [hpo];simp only;rw [hno];exact hs1
end Q
end
