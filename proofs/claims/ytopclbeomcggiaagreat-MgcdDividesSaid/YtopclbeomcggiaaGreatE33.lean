/- Fermat's little theorem and inverses modulo 2^31 - 1. No program in sight. Images of polynomials modulo 2^31 - 1: the images' greatest common divisor has at least the degree of a common divisor. No program in sight. The bound by images: where it is 0, common divisors have degree 0; it always answers. No program in sight. Pseudo-division, plain: what is left is a multiple. What the steps of the greatest common divisor answer, in the ring: pseudo-remainders, quotients, normal polynomials. No program in sight. -/
import Derived.Test.YtopclbeomcggiaaGreatE10
import Derived.Test.YtopclbeomcggiaaGreatE27
import Derived.Test.YtopclbeomcggiaaGreatE31
import Derived.Test.YtopclbeomcggiaaGreatE32
set_option linter.unusedVariables false
set_option linter.unusedSimpArgs false
set_option maxHeartbeats 16000000
set_option maxRecDepth 100000
section
namespace Q
def nsum (f:Nat->Nat):Nat->Nat
|0=>0
|n+1=>nsum f n+f n
theorem nsum_congr {f g:Nat->Nat}:∀ {n:Nat},(∀ i,i<n->f i=g i)->nsum f n=nsum g n
|0,_=>rfl
|n+1,h=>by rw [nsum,nsum,nsum_congr fun i hi=>h i (by omega),h n (by omega)]
theorem nsum_add (f g:Nat->Nat):∀ n,nsum (fun i=>f i+g i) n=nsum f n+nsum g n
|0=>rfl
|n+1=>by rw [nsum,nsum_add f g n,nsum,nsum];omega
theorem nsum_mul (c:Nat) (f:Nat->Nat):∀ n,nsum (fun i=>c*f i) n=c*nsum f n
|0=>rfl
|n+1=>by rw [nsum,nsum_mul c f n,nsum,Nat.mul_add]
theorem nsum_succ (f:Nat->Nat):∀ n,nsum f (n+1)=f 0+nsum (fun i=>f (i+1)) n
|0=>by simp [nsum]
|n+1=>by rw [nsum,nsum_succ f n,nsum];omega
theorem nsum_dvd {p:Nat} {f:Nat->Nat}:∀ {n:Nat},(∀ i,i<n->p∣f i)->p∣nsum f n
|0,_=>Nat.dvd_zero p
|n+1,h=>Nat.dvd_add (nsum_dvd fun i hi=>h i (by omega)) (h n (by omega))
def ch:Nat->Nat->Nat
|_,0=>1
|0,_+1=>0
|n+1,k+1=>ch n k+ch n (k+1)
theorem ch_zero (n:Nat):ch n 0=1:=by cases n <;> rfl
theorem ch_out:∀ {n k:Nat},n<k->ch n k=0
|_,0,h=>by omega
|0,_+1,_=>rfl
|n+1,k+1,h=>by rw [ch,ch_out (show n<k by omega),ch_out (show n<k+1 by omega)]
theorem ch_self:∀ n,ch n n=1
|0=>rfl
|n+1=>by rw [ch,ch_self n,ch_out (Nat.lt_succ_self n)]
theorem ch_abs:∀ n k,(k+1)*ch (n+1) (k+1)=(n+1)*ch n k
|0,0=>rfl
|0,k+1=>by
  have e:ch 1 (k+2)=0:=ch_out (by omega);rw [e];rfl
|n+1,0=>by
  have h:=ch_abs n 0;have e:ch (n+2) 1=ch (n+1) 0+ch (n+1) 1:=rfl;rw [ch_zero] at h;rw [show n+1+1=n+2 from rfl,e,ch_zero];rw [show 0+1=1 from rfl] at h;omega
|n+1,k+1=>by
  have h1:=ch_abs n k;have h2:=ch_abs n (k+1);have e:ch (n+2) (k+2)=ch (n+1) (k+1)+ch (n+1) (k+2):=rfl;have e2:ch (n+1) (k+1)=ch n k+ch n (k+1):=rfl;rw [e];have h3:(k+1+1)*(ch (n+1) (k+1)+ch (n+1) (k+2))=(k+1)*ch (n+1) (k+1)+ch (n+1) (k+1)+(k+1+1)*ch (n+1) (k+2):=by grind
  rw [h3,h1,h2,e2];grind
theorem binom (x:Nat):∀ n,(x+1) ^ n=nsum (fun k=>ch n k*x ^ k) (n+1)
|0=>by simp [nsum,ch]
|n+1=>by
  rw [Nat.pow_succ,binom x n,nsum_succ (fun k=>ch (n+1) k*x ^ k)]
  have h1:nsum (fun i=>ch (n+1) (i+1)*x ^ (i+1)) (n+1)=x*nsum (fun k=>ch n k*x ^ k) (n+1)+nsum (fun i=>ch n (i+1)*x ^ (i+1)) (n+1):=by
   rw [<- nsum_mul,<- nsum_add];refine nsum_congr fun i _=>?_;show (ch n i+ch n (i+1))*x ^ (i+1)=_;rw [Nat.pow_succ];grind
  rw [h1]
  have h2:nsum (fun i=>ch n (i+1)*x ^ (i+1)) (n+1)=nsum (fun i=>ch n (i+1)*x ^ (i+1)) n:=by
   rw [nsum,ch_out (Nat.lt_succ_self n)];omega
  have h3:=nsum_succ (fun k=>ch n k*x ^ k) n;rw [h2,ch_zero,Nat.pow_zero];rw [ch_zero,Nat.pow_zero] at h3;have h4:nsum (fun k=>ch n k*x ^ k) (n+1)*(x+1)=x*nsum (fun k=>ch n k*x ^ k) (n+1)+nsum (fun k=>ch n k*x ^ k) (n+1):=by grind
  rw [h4,h3];omega
theorem prm_dvdN {p:Nat} (hp:prm p) {a b:Nat} (h:p∣a*b):p∣a\/p∣b:=by
 have:=prm_dvd hp (a:=a) (b:=b) (by rw [<- Int.natCast_mul];exact Int.ofNat_dvd.2 h);exact this.imp Int.ofNat_dvd.1 Int.ofNat_dvd.1
theorem ch_prime {p:Nat} (hp:prm p) {k:Nat} (h0:0<k) (hk:k<p):p∣ch p k:=by
 obtain⟨j,rfl⟩:∃ j,k=j+1:=⟨k - 1,by omega⟩;obtain⟨n,rfl⟩:∃ n,p=n+1:=⟨p - 1,by omega⟩;rcases prm_dvdN hp (a:=j+1) (b:=ch (n+1) (j+1)) ⟨ch n j,ch_abs n j⟩ with h|h
 ·have:=Nat.le_of_dvd h0 h;omega
 ·exact h
theorem frob {p:Nat} (hp:prm p) (x:Nat):(x+1) ^ p % p=(x ^ p+1) % p:=by
 have h1:=hp.1;obtain⟨n,rfl⟩:∃ n,p=n+1:=⟨p - 1,by omega⟩;rw [binom x (n+1),nsum,nsum_succ,ch_zero,ch_self,Nat.pow_zero];obtain⟨k,hk⟩:(n+1)∣nsum (fun i=>ch (n+1) (i+1)*x ^ (i+1)) n:=nsum_dvd fun i hi=>Nat.dvd_mul_right_of_dvd (ch_prime hp (by omega) (by omega)) _;rw [hk];have e:1*1+(n+1)*k+1*x ^ (n+1)=(x ^ (n+1)+1)+(n+1)*k:=by omega
 rw [e,Nat.add_mul_mod_self_left]
theorem fermat0 {p:Nat} (hp:prm p):∀ x:Nat,x ^ p % p=x % p
|0=>by rw [Nat.zero_pow (by have:=hp.1;omega)]
|x+1=>by rw [frob hp,Nat.add_mod,fermat0 hp x,<- Nat.add_mod]
theorem fermat {p:Nat} (hp:prm p) {x:Nat} (h:¬ p∣x):x ^ (p-2)*x % p=1:=by
 have h1:=hp.1;have h2:=fermat0 hp x;obtain⟨n,rfl⟩:∃ n,p=n+2:=⟨p - 2,by omega⟩;rw [Nat.add_sub_cancel];have e:x ^ (n+2)=x*(x ^ n*x):=by rw [Nat.pow_succ,Nat.pow_succ];grind
 rw [e] at h2
 have h3:((n+2:Nat):Int)∣(x:Int)*((x ^ n*x:Nat)-1:Int):=by
  have h4:=Int.emod_emod_of_dvd
  have:((x*(x ^ n*x):Nat):Int) % ((n+2:Nat):Int)=(x:Int) % ((n+2:Nat):Int):=by
   rw [<- Int.natCast_emod,<- Int.natCast_emod,h2]
  have h5:=Int.dvd_of_emod_eq_zero (Int.emod_eq_emod_iff_emod_sub_eq_zero.1 this)
  have e2:(x:Int)*((x ^ n*x:Nat)-1:Int)=((x*(x ^ n*x):Nat):Int)-x:=by
   rw [Int.natCast_mul x];grind
  rw [e2];exact h5
 rcases prm_dvd hp h3 with h4|h4
 ·exact absurd (Int.ofNat_dvd.1 h4) h
 ·have h5:=Int.emod_eq_zero_of_dvd h4;have h6:=Int.emod_eq_emod_iff_emod_sub_eq_zero.2 h5
  have h7:((x ^ n*x % (n+2):Nat):Int)=1:=by
   rw [Int.natCast_emod,h6];exact Int.emod_eq_of_lt (by omega) (by omega)
  omega
def chk (p n:Nat):Nat->Bool
|0=>true
|f+1=>match p % (n-f) with
 |0=>false
 |_+1=>chk p n f
theorem chk_ok {p n:Nat}:∀ {f:Nat},chk p n f=true->∀ k,n-f<k->k<=n->¬ k∣p
|0,_=>fun k h1 h2=>by omega
|f+1,h=>fun k h1 h2 hd=>by
  rw [chk] at h;split at h
  ·cases h
  ·rename_i hm;rcases Nat.eq_or_lt_of_le (show n - f<=k by omega) with e|hlt
   ·rw [e] at hm;rw [Nat.mod_eq_zero_of_dvd hd] at hm;cases hm
   ·exact chk_ok h k hlt h2 hd
theorem pr_chk:chk 2147483647 46340 46339=true:=by decide +kernel
theorem prm_pr:prm pr:=by
 refine⟨by decide,fun m hm=>?_⟩;rw [pr_eq] at *;obtain⟨k,hk⟩:=hm;have h0:∀ j,1<j->j<=46340->¬ j∣2147483647:=fun j h1 h2=>chk_ok pr_chk j (by omega) h2;rcases Nat.lt_or_ge m 2 with h|h
 ·left;rcases Nat.eq_zero_or_pos m with e|h'
  ·rw [e,Nat.zero_mul] at hk;cases hk
  ·omega
 ·rcases Nat.lt_or_ge m 46341 with h2|h2
  ·exact absurd ⟨k,hk⟩ (h0 m (by omega) (by omega))
  ·rcases Nat.lt_or_ge k 46341 with h3|h3
   ·rcases Nat.lt_or_ge k 2 with h4|h4
    ·right;rcases Nat.eq_zero_or_pos k with e|h'
     ·rw [e,Nat.mul_zero] at hk;cases hk
     ·obtain rfl:k=1:=by omega
      omega
    ·exact absurd ⟨m,by rw [hk];exact Nat.mul_comm _ _⟩ (h0 k (by omega) (by omega))
   ·have:=Nat.mul_le_mul h2 h3;omega
theorem powL_eq:∀ (f out a n:Nat),n<2 ^ f->out<pr->powL f out a n=out*a ^ n % pr
|0,out,a,n,h,ho=>by
  obtain rfl:n=0:=by simpa using h
  rw [powL,Nat.pow_zero,Nat.mul_one,Nat.mod_eq_of_lt ho]
|f+1,out,a,n,h,ho=>by
  rw [powL];split
  ·rename_i h0;rw [h0,Nat.pow_zero,Nat.mul_one,Nat.mod_eq_of_lt ho]
  ·have hlt:(if n % 2=1 then out*a % pr else out)<pr:=by
    split
    ·exact Nat.mod_lt _ (by decide)
    ·exact ho
   rw [powL_eq f _ _ _ (by rw [Nat.pow_succ] at h;omega) hlt]
   have h1:(a*a % pr) ^ (n / 2) % pr=a ^ (2*(n / 2)) % pr:=by
    rw [<- Nat.pow_mod,Nat.pow_mul,Nat.pow_two]
   have h2:=Nat.div_add_mod n 2;split
   ·rename_i ho;rw [Nat.mul_mod,h1,<- Nat.mul_mod,Nat.mod_mul_mod];have e:n=2*(n / 2)+1:=by omega
    conv=>rhs;rw [e,Nat.pow_succ]
    congr 1;grind
   ·rw [Nat.mul_mod,h1,<- Nat.mul_mod];have e:n=2*(n / 2):=by omega
    conv=>rhs;rw [e]
theorem powm_eq (a:Nat) {n:Nat} (h:n<18446744073709551616):powm a n=a ^ n % pr:=by
 rw [powm,powL_eq 64 1 a n (by simpa using h) (by decide),Nat.one_mul]
theorem inv_pr {x:Nat} (h0:0<x) (h:x<pr):powm x (pr-2)*x % pr=1:=by
 rw [powm_eq x (by decide),Nat.mod_mul_mod];exact fermat prm_pr fun hd=>by have:=Nat.le_of_dvd h0 hd;omega
end Q
end
section
namespace Q
open MP
def subs (v t:Nat):Nat->MP->MP
|0,p=>p
|w+1,p=>if w=v then subs v t w p else at' w ((t+w:Nat):Rat) (subs v t w p)
theorem subs_mul (v t:Nat):∀ (w:Nat) (p q:MP),subs v t w (p*q)=subs v t w p*subs v t w q
|0,_,_=>rfl
|w+1,p,q=>by
  simp only [subs];split
  ·exact subs_mul v t w p q
  ·rw [subs_mul v t w p q,at_mul]
theorem subs_dv (v t:Nat) {D:Nat}:∀ (w:Nat) {p:MP},p.dv D->(subs v t w p).dv D
|0,_,h=>h
|w+1,p,h=>by
  simp only [subs];split
  ·exact subs_dv v t w h
  ·rw [<- Rat.intCast_natCast];exact dv_at (subs_dv v t w h) w _
theorem subs_deg (v t:Nat) (hv:v<4):∀ (w:Nat),w<=4->∀ {p:MP} {u d:Nat},u<4->p.deg u<=d->(subs v t w p).deg u<=d
|0,_,_,_,_,_,h=>h
|w+1,hw,p,u,d,hu,h=>by
  simp only [subs];split
  ·exact subs_deg v t hv w (by omega) hu h
  ·exact deg_at _ _ (by omega) hu (subs_deg v t hv w (by omega) hu h)
def wtN (v t:Nat) (e:Ex):Nat->Nat
|0=>1
|w+1=>if w=v then wtN v t e w else wtN v t e w*(t+w) ^ (e.get w).toNat
def clr (v:Nat) (e:Ex):Nat->Ex
|0=>e
|w+1=>if w=v then clr v e w else (clr v e w).put w 0
theorem clr_get (v:Nat) (hv:v<4) (e:Ex):∀ w,w<=4->∀ u,u<4->(clr v e w).get u=if u<w/\u≠v then 0 else e.get u
|0,_,u,_=>by simp [clr]
|w+1,hw,u,hu=>by
  have ih:=clr_get v hv e w (by omega) u hu;simp only [clr];split
  ·rename_i h;rw [ih];by_cases h1:u<w/\u≠v
   ·rw [if_pos h1,if_pos ⟨by omega,h1.2⟩]
   ·rw [if_neg h1,if_neg (by omega)]
  ·rename_i h;by_cases h1:w=u
   ·subst h1;rw [Ex.get_put,if_pos ⟨by omega,h⟩]
   ·rw [Ex.get_put_ne _ (by omega) hu h1,ih];by_cases h2:u<w/\u≠v
    ·rw [if_pos h2,if_pos ⟨by omega,h2.2⟩]
    ·rw [if_neg h2,if_neg (by omega)]
theorem Lf_at (f:Ex->Rat) (w:Nat) (r:Rat) (p:MP):Lf f (at' w r p).l=Lf (fun e=>r ^ (e.get w).toNat * f (e.put w 0)) p.l:=by
 have h:NatL (evalL p.l w r):=NatL.evalL p.v.nat w r;show Lf f (canon (evalL p.l w r))=_;rw [canon_eqv h f];exact Lf_map _ _ _ _ fun t _=>by show t.2*r ^ _*f (t.1.put w 0)=_;grind
theorem Lf_subs (v t:Nat) (hv:v<4) (p:MP):∀ (w:Nat),w<=4->∀ f:Ex->Rat,Lf f (subs v t w p).l=Lf (fun e=>(wtN v t e w:Rat)*f (clr v e w)) p.l
|0,_,f=>Lf_congr fun s _=>by
  show f s.1=((1:Nat):Rat)*f s.1;have e:((1:Nat):Rat)=1:=rfl;rw [e];grind
|w+1,hw,f=>by
  have ih:=Lf_subs v t hv p w (by omega);by_cases h:w=v
  ·simp only [subs,wtN,clr,if_pos h];exact ih f
  ·simp only [subs,wtN,clr,if_neg h];rw [Lf_at,ih];refine Lf_congr fun s _=>?_;have e:(clr v s.1 w).get w=s.1.get w:=by rw [clr_get v hv s.1 w (by omega) w (by omega),if_neg (by omega)]
   rw [e,Rat.natCast_mul,Rat.natCast_pow];grind
theorem cf_subs (v t:Nat) (hv:v<4) (p:MP) (i:Nat):cf (subs v t 4 p).l (e0.put v i)=Lf (fun e=>if e.get v=i then (wtN v t e 4:Rat) else 0) p.l:=by
 show Lf _ _=_;rw [Lf_subs v t hv p 4 (Nat.le_refl _)];refine Lf_congr fun s _=>?_
 have e:(clr v s.1 4=e0.put v i)↔s.1.get v=(i:Int):=by
  constructor
  ·intro h;have:=congrArg (Ex.get · v) h;simp only [clr_get v hv s.1 4 (Nat.le_refl _) v hv,Ex.get_put] at this;rw [if_neg (by omega)] at this;exact this
  ·intro h;refine Ex.ext4 fun u hu=>?_;rw [clr_get v hv s.1 4 (Nat.le_refl _) u hu];by_cases hc:v=u
   ·subst hc;rw [if_neg (by omega),Ex.get_put,h]
   ·rw [if_pos ⟨hu,Ne.symm hc⟩,Ex.get_put_ne _ hv hu hc,e0_get]
 by_cases hc:s.1.get v=(i:Int)
 ·rw [if_pos hc,if_pos (e.2 hc)];grind
 ·rw [if_neg hc,if_neg fun h=>hc (e.1 h)];grind
def Cg (a b:Int):Prop:=∃ k:Int,a=b+2147483647*k
theorem Cg.refl (a:Int):Cg a a:=⟨0,by omega⟩
theorem Cg.symm {a b:Int} (h:Cg a b):Cg b a:=by obtain⟨k,h⟩:=h;exact⟨-k,by omega⟩
theorem Cg.trans {a b c:Int} (h:Cg a b) (h':Cg b c):Cg a c:=by obtain⟨k,h⟩:=h;obtain⟨l,h'⟩:=h';exact⟨k+l,by omega⟩
theorem Cg.add {a b c d:Int} (h:Cg a b) (h':Cg c d):Cg (a+c) (b+d):=by obtain⟨k,h⟩:=h;obtain⟨l,h'⟩:=h';exact⟨k+l,by omega⟩
theorem Cg.mul {a b c d:Int} (h:Cg a b) (h':Cg c d):Cg (a*c) (b*d):=by
 obtain⟨k,rfl⟩:=h;obtain⟨l,rfl⟩:=h';exact⟨b*l+k*d+2147483647*k*l,by grind⟩
theorem Cg.mod (a:Nat):Cg ((a % pr:Nat):Int) a:=⟨-((a / pr:Nat):Int),by have:=Nat.div_add_mod a pr;rw [pr_eq] at *;omega⟩
theorem Cg.zero {a:Int} (h:Cg a 0):(2147483647:Int)∣a:=by obtain⟨k,h⟩:=h;exact⟨k,by omega⟩
theorem Cg.cancel {a b d:Int} (hd:¬ (2147483647:Int)∣d) (h:Cg (a*d) (b*d)):Cg a b:=by
 obtain⟨k,h⟩:=h;have h2:((pr:Nat):Int)∣(a - b)*d:=⟨k,by rw [pr_eq];grind⟩;rcases prm_dvd prm_pr h2 with h3|h3
 ·obtain⟨l,h3⟩:=h3;exact⟨l,by rw [pr_eq] at h3;omega⟩
 ·rw [pr_eq] at h3;exact absurd h3 hd
theorem resid_cg (z:Int):Cg (resid z) z:=by
 unfold resid;split
 ·exact⟨(z.natAbs / 2147483647:Nat)+1,by have:=Nat.div_add_mod z.natAbs 2147483647;omega⟩
 ·rename_i h;by_cases hz:z<0
  ·exact⟨(z.natAbs / 2147483647:Nat),by have:=Nat.div_add_mod z.natAbs 2147483647;omega⟩
  ·exact⟨-((z.natAbs / 2147483647:Nat):Int),by have:=Nat.div_add_mod z.natAbs 2147483647;omega⟩
theorem powm_cg (a:Nat) {n:Nat} (h:n<18446744073709551616):Cg (powm a n) ((a ^ n:Nat):Int):=by rw [powm_eq a h];exact Cg.mod _
theorem imgX_cg {m:Trm} {v t:Nat} (hn:m.1.nat=true) (he:∀ w,m.1.get w<18446744073709551616):∀ w:Nat,Cg (imgX m v t w) ((resid m.2.num*powm (resid m.2.den) (pr-2):Nat)*(wtN v t m.1 w:Nat):Int)
|0=>by
  rw [imgX,wtN];have:=Cg.mod (resid m.2.num*powm (resid m.2.den) (pr-2));have e:∀ x:Int,x*((1:Nat):Int)=x:=fun x=>by omega
  rw [e];exact this
|w+1=>by
  rw [imgX,wtN];have ih:=imgX_cg (v:=v) (t:=t) hn he w;split
  ·exact ih
  ·have h2:=powm_cg (t+w) (n:=(m.1.get w).toNat) (by have:=he w;omega);have h1:=(Cg.mod (imgX m v t w*powm (t+w) (m.1.get w).toNat)).trans (by rw [Int.natCast_mul];exact ih.mul h2);rw [Int.natCast_mul (wtN v t m.1 w),<- Int.mul_assoc];exact h1
theorem imgT_cg {m:Trm} {v t:Nat} (hn:m.1.nat=true) (he:∀ w,m.1.get w<18446744073709551616) (hd:resid m.2.den≠0):Cg (imgT m v t*m.2.den) (m.2.num*(wtN v t m.1 4:Nat)):=by
 have h1:=imgX_cg (v:=v) (t:=t) hn he 4;have h2:=resid_cg m.2.num;have h3:=resid_cg (m.2.den:Int);have hlt:resid (m.2.den:Int)<pr:=resid_lt _;have h4:=inv_pr (x:=resid (m.2.den:Int)) (by omega) hlt;have h5:=Cg.mod (powm (resid m.2.den) (pr-2)*resid m.2.den);rw [h4] at h5
 have h6:Cg ((powm (resid m.2.den) (pr-2):Nat)*(m.2.den:Int)) 1:=by
  have:=(Cg.refl ((powm (resid m.2.den) (pr-2):Nat):Int)).mul h3;refine (this.symm.trans ?_);rw [<- Int.natCast_mul];exact h5.symm
 have h7:=h1.mul (Cg.refl (m.2.den:Int));refine h7.trans ?_;have h8:=(h2.mul h6).mul (Cg.refl (wtN v t m.1 4:Int));rw [Int.mul_one] at h8;rw [Int.natCast_mul];have e:(resid m.2.num:Int)*(powm (resid m.2.den) (pr-2):Nat)*(wtN v t m.1 4:Nat)*m.2.den=(resid m.2.num:Int)*((powm (resid m.2.den) (pr-2):Nat)*(m.2.den:Int))*(wtN v t m.1 4:Nat):=by grind
 rw [e];exact h8
def cS (N v t i:Nat):List Trm->Int
|[]=>0
|m::l=>(if m.1.get v=(i:Int) then (m.2*(N:Rat)).num*(wtN v t m.1 4:Nat) else 0)+cS N v t i l
theorem cS_eq {N v t i:Nat}:∀ {l:List Trm},(∀ m∈l,Dv N m.2)->(N:Rat)*Lf (fun e=>if e.get v=i then (wtN v t e 4:Rat) else 0) l=(cS N v t i l:Rat)
|[],_=>by show (N:Rat)*0=((0:Int):Rat);rw [Rat.mul_zero];rfl
|m::l,h=>by
  have ih:=cS_eq (i:=i) (v:=v) (t:=t) (l:=l) fun s hs=>h s (by simp [hs]);obtain⟨k,hk⟩:=h m (by simp);rw [Lf_cons,cS,Rat.intCast_add,<- ih,hk];split
  ·rw [Rat.intCast_mul,Rat.intCast_natCast];have:((k:Rat)).num=k:=rfl;rw [this,<- hk];grind
  ·rw [Rat.intCast_zero];grind
theorem imgGo_cg {N v t:Nat} (hv:v<4):∀ {l:List Trm} {out x:List Nat},imgGo v t l out=some x->NatL l->(∀ m∈l,∀ w,m.1.get w<18446744073709551616)->(∀ m∈l,Dv N m.2)->(∀ m∈l,(m.1.get v).toNat<out.length) ->
  x.length=out.length/\∀ i,i<out.length->Cg ((N:Int)*x.getD i 0) ((N:Int)*out.getD i 0+cS N v t i l)
|[],out,x,h,_,_,_,_=>by
  simp only [imgGo,Option.some.injEq] at h;subst h;exact⟨rfl,fun i _=>by rw [cS,Int.add_zero];exact Cg.refl _⟩
|m::l,out,x,h,hn,he,hd,hk=>by
  rw [imgGo] at h;split at h
  ·cases h
  ·rename_i hres;have hm:=hn m (by simp);obtain⟨h1,h2⟩:=imgGo_cg hv h (fun s hs=>hn s (by simp [hs])) (fun s hs=>he s (by simp [hs])) (fun s hs=>hd s (by simp [hs])) (fun s hs=>by rw [List.length_set];exact hk s (by simp [hs]));rw [List.length_set] at h1 h2;refine⟨h1,fun i hi=>(h2 i hi).trans ?_⟩;rw [cS,<- Int.add_assoc];refine Cg.add ?_ (Cg.refl _);have hk0:=hk m (by simp);have hg0:=Ex.nat_get hm v;by_cases hc:m.1.get v=(i:Int)
   ·have e:(m.1.get v).toNat=i:=by omega
    rw [if_pos hc,e,List.getD_eq_getElem?_getD,List.getElem?_set_self (by omega),Option.getD_some];have h3:=Cg.mod (out.getD i 0+imgT m v t);rw [Int.natCast_add] at h3;have h4:=(Cg.refl (N:Int)).mul h3;refine h4.trans ?_;rw [Int.mul_add];refine (Cg.refl _).add ?_;have h5:=imgT_cg (v:=v) (t:=t) hm (he m (by simp)) hres;obtain⟨z,hz⟩:=hd m (by simp);rw [hz];show Cg _ (z*_)
    have hden:¬ (2147483647:Int)∣m.2.den:=fun hdv=>hres (by
     have:=resid_cg (m.2.den:Int);have h6:=resid_lt (m.2.den:Int);obtain⟨a,ha⟩:=hdv;obtain⟨b,hb⟩:=this
     omega)
    refine Cg.cancel hden ?_
    have h7:z*m.2.den=N*m.2.num:=by
     have h8:m.2*(m.2.den:Rat)=m.2.num:=by
      have h1:(m.2.den:Rat)≠0:=nat_ne m.2.den_pos;have h2:=Rat.num_divInt_den m.2;rw [Rat.divInt_eq_div,Rat.intCast_natCast] at h2;have h3:(m.2.num:Rat) / (m.2.den:Rat)*(m.2.den:Rat)=m.2.num:=Rat.div_mul_cancel h1;rwa [h2] at h3
     have h9:((z*m.2.den:Int):Rat)=((N*m.2.num:Int):Rat):=by
      rw [Rat.intCast_mul,Rat.intCast_mul,<- hz,<- h8,Rat.intCast_natCast,Rat.intCast_natCast];grind
     exact Rat.intCast_inj.1 h9
    have h10:=(Cg.refl (N:Int)).mul h5;have e1:(N:Int)*imgT m v t*m.2.den=N*(imgT m v t*m.2.den):=by grind
    have e2:z*(wtN v t m.1 4:Nat)*m.2.den=N*(m.2.num*(wtN v t m.1 4:Nat)):=by
     have:z*(wtN v t m.1 4:Nat)*m.2.den=(z*m.2.den)*(wtN v t m.1 4:Nat):=by grind
     rw [this,h7];grind
    rw [e1,e2];exact h10
   ·have e:(m.1.get v).toNat≠i:=by omega
    rw [if_neg hc,Int.add_zero,List.getD_eq_getElem?_getD,List.getElem?_set_ne e,<- List.getD_eq_getElem?_getD];exact Cg.refl _
theorem getD_replicate (n i:Nat):(List.replicate n 0).getD i 0=0:=by
 rw [List.getD_eq_getElem?_getD];rcases Nat.lt_or_ge i n with h|h
 ·rw [List.getElem?_replicate,if_pos h];rfl
 ·rw [List.getElem?_eq_none (by simpa using h)];rfl
def polyL (v:Nat) (l:List Nat):MP:=msum (fun i=>c ((l.getD i 0:Nat):Rat)*xk v i) l.length
theorem co_polyL (v:Nat) (l:List Nat) (i:Nat):(polyL v l).co v i=c ((l.getD i 0:Nat):Rat):=by
 rw [polyL,co_msum];rcases Nat.lt_or_ge i l.length with h|h
 ·rw [msum_delta _ h fun j _ hj=>by rw [co_mul_fr (fr_c _ _),co_xk_self,if_neg (Ne.symm hj)];grind];rw [co_mul_fr (fr_c _ _),co_xk_self,if_pos rfl];grind
 ·rw [msum_congr (g:=fun _=>0) fun j hj=>by rw [co_mul_fr (fr_c _ _),co_xk_self,if_neg (by omega)];grind,msum_zero];rw [List.getD_eq_getElem?_getD,List.getElem?_eq_none h];rfl
theorem deg_polyL (v:Nat) (l:List Nat):(polyL v l).deg v<=(l.length:Int)-1:=by
 refine deg_le_of (by omega) fun n hn=>?_;rw [co_polyL,List.getD_eq_getElem?_getD,List.getElem?_eq_none (by omega)];rfl
theorem ext_co (v:Nat) {p q:MP} (h:∀ i,p.co v i=q.co v i):p=q:=by
 obtain⟨N,hN⟩:∃ N,N=(max (p.deg v) (q.deg v)).toNat+1:=⟨_,rfl⟩;rw [split v p (N:=N) (by omega),split v q (N:=N) (by omega)];exact msum_congr fun i _=>by rw [h i]
def DvP (v:Nat) (F:MP) (l:List Nat):Prop:=∃ E R:MP,E.dv 1/\R.dv 1/\polyL v l=F*E+c (pr:Rat)*R
theorem dv_nat (n:Nat):(c (n:Rat)).dv 1:=by rw [<- Rat.intCast_natCast];exact dv_int 1 _
theorem dv_xk (v k:Nat):(xk v k).dv 1:=fun t ht=>by rw [List.mem_singleton.1 ht];exact Dv.int 1 1
theorem dv_polyL (v:Nat) (l:List Nat):(polyL v l).dv 1:=dv_msum fun i _=>dv_mul1 (dv_nat _) (dv_xk v i)
theorem getD_set (l:List Nat) (k y i:Nat) (hk:k<l.length):(l.set k y).getD i 0=if i=k then y else l.getD i 0:=by
 rw [List.getD_eq_getElem?_getD];by_cases h:i=k
 ·subst h;rw [if_pos rfl,List.getElem?_set_self hk];rfl
 ·rw [if_neg h,List.getElem?_set_ne (Ne.symm h),List.getD_eq_getElem?_getD]
theorem c_add (r s:Rat):c (r+s)=c r+c s:=ext' fun x=>by rw [MP.ev_add,ev_c,ev_c,ev_c]
theorem strip_get:∀ (l:List Nat) (i:Nat),(strip l).getD i 0=l.getD i 0
|[],_=>rfl
|x::l,i=>by
  have ih:=strip_get l;rw [strip];split
  ·rename_i h;rw [h] at ih;have hz:∀ j,l.getD j 0=0:=fun j=>by rw [<- ih j];rfl
   split
   ·rename_i hx
    cases i with
   |zero=>rw [hx];rfl
   |succ i=>have:=hz i;simpa using this.symm
   ·cases i with
   |zero=>rfl
   |succ i=>have:=hz i;simpa using this.symm
  ·rename_i y r h;rw [<- h]
   cases i with
  |zero=>rfl
  |succ i=>have:=ih i;simpa using this
theorem polyL_strip (v:Nat) (l:List Nat):polyL v (strip l)=polyL v l:=ext_co v fun i=>by rw [co_polyL,co_polyL,strip_get]
def Tp (l:List Nat):Prop:=l≠[]->l.getD (l.length-1) 0≠0
theorem strip_tp:∀ l:List Nat,Tp (strip l)
|[]=>fun h=>absurd rfl h
|x::l=>by
  have ih:=strip_tp l;rw [strip];split
  ·split
   ·exact fun h=>absurd rfl h
   ·rename_i hx;exact fun _=>hx
  ·rename_i y r h;rw [h] at ih;intro _;have:=ih (by simp);simpa using this
theorem strip_len:∀ l:List Nat,(strip l).length<=l.length
|[]=>Nat.le_refl _
|x::l=>by
  have ih:=strip_len l;rw [strip];split
  ·split <;> simp
  ·rename_i y r h;rw [h] at ih;simpa using ih
theorem strip_lt {l:List Nat} (h0:l≠[]) (h:l.getD (l.length-1) 0=0):(strip l).length<l.length:=by
 have h1:=strip_len l;rcases Nat.eq_or_lt_of_le h1 with e|hlt
 ·exfalso;have hne:strip l≠[]:=fun h'=>by rw [h'] at e;have:=List.length_eq_zero_iff.1 e.symm;exact h0 this
  have h2:=strip_tp l hne;rw [strip_get,e] at h2;exact h2 h
 ·exact hlt
theorem strip_lim {l:List Nat} (h:∀ x∈l,x<pr):∀ x∈strip l,x<pr:=by
 induction l with
|nil=>exact h
|cons x l ih =>
  have ih:=ih fun y hy=>h y (by simp [hy]);rw [strip];split
  ·split
   ·intro _ hy;cases hy
   ·intro y hy;rw [List.mem_singleton.1 hy];exact h x (by simp)
  ·rename_i z r e;rw [e] at ih;intro y hy;rcases List.mem_cons.1 hy with rfl|hy
   ·exact h _ (by simp)
   ·exact ih y hy
theorem redTo_ln (b rest:List Nat) (f at_:Nat):∀ i,(redTo b rest f at_ i).length=rest.length
|0=>rfl
|i+1=>by rw [redTo,List.length_set,redTo_ln b rest f at_ i]
theorem redTo_lim {b rest:List Nat} {f at_:Nat} (h:∀ x∈rest,x<pr):∀ i,∀ x∈redTo b rest f at_ i,x<pr
|0=>h
|i+1=>fun x hx=>by
  rw [redTo] at hx;rcases List.mem_or_eq_of_mem_set hx with hx|rfl
  ·exact redTo_lim h i x hx
  ·exact Nat.mod_lt _ (by decide)
theorem redTo_get {b rest:List Nat} {f at_:Nat}:∀ (i:Nat),at_+i<=rest.length->∀ j,(redTo b rest f at_ i).getD j 0=if at_<=j/\j<at_+i then (rest.getD j 0+(pr-b.getD (j-at_) 0)*f) % pr else rest.getD j 0
|0,_,j=>by rw [redTo,if_neg (by omega)]
|i+1,h,j=>by
  have ih:=redTo_get (b:=b) (rest:=rest) (f:=f) (at_:=at_) i (by omega);rw [redTo,getD_set _ _ _ _ (by rw [redTo_ln];omega),ih j,ih (at_+i)];by_cases hj:j=at_+i
  ·subst hj;rw [if_pos rfl,if_neg (by omega),if_pos (by omega),show at_+i-at_=i by omega]
  ·rw [if_neg hj];by_cases h2:at_<=j/\j<at_+i
   ·rw [if_pos h2,if_pos (by omega)]
   ·rw [if_neg h2,if_neg (by omega)]
theorem DvP.red {v:Nat} {F:MP} {b rest:List Nat} (hr:DvP v F rest) (hb:DvP v F b) (hbl:∀ x∈b,x<pr) (f:Nat) {at_:Nat} (h:at_+b.length=rest.length):DvP v F (redTo b rest f at_ b.length):=by
 obtain⟨E,R,iE,iR,e⟩:=hr;obtain⟨E',R',iE',iR',e'⟩:=hb
 have key:∃ K:MP,K.dv 1/\polyL v (redTo b rest f at_ b.length)=polyL v rest-c (f:Rat)*(xk v at_*polyL v b)+c (pr:Rat)*K:=by
  have hq:∀ j,∃ k:Int,((redTo b rest f at_ b.length).getD j 0:Int)=(rest.getD j 0:Int)-(if at_<=j then (f:Int)*(b.getD (j-at_) 0:Nat) else 0)+2147483647*k:=fun j=>by
   rw [redTo_get b.length (by omega)];by_cases h1:at_<=j/\j<at_+b.length
   ·rw [if_pos h1,if_pos h1.1]
    have hlt:b.getD (j-at_) 0<pr:=by
     rw [List.getD_eq_getElem?_getD,List.getElem?_eq_getElem (by omega:j-at_<b.length)];exact hbl _ (List.getElem_mem _)
    obtain⟨y,hy⟩:∃ y,y=b.getD (j - at_) 0:=⟨_,rfl⟩;rw [<- hy] at hlt ⊢;obtain⟨k,hk⟩:=Cg.mod (rest.getD j 0+(pr - y)*f);refine⟨k+f,?_⟩;rw [hk,Int.natCast_add,Int.natCast_mul,Int.ofNat_sub (by omega),pr_eq];grind
   ·rw [if_neg h1];refine⟨0,?_⟩;by_cases h2:at_<=j
    ·rw [if_pos h2,List.getD_eq_getElem?_getD (l:=b),List.getElem?_eq_none (by omega)];simp
    ·rw [if_neg h2];omega
  have ⟨k,hk⟩:∃ k:Nat->Int,∀ j,((redTo b rest f at_ b.length).getD j 0:Int)=(rest.getD j 0:Int)-(if at_<=j then (f:Int)*(b.getD (j-at_) 0:Nat) else 0)+2147483647*k j :=
   ⟨fun j=>(((redTo b rest f at_ b.length).getD j 0:Int)-((rest.getD j 0:Int)-(if at_<=j then (f:Int)*(b.getD (j-at_) 0:Nat) else 0))) / 2147483647,fun j=>by
    obtain⟨k,hk⟩:=hq j
    simp only [hk];omega⟩
  refine⟨msum (fun i=>c (k i:Rat)*xk v i) rest.length,dv_msum fun i _=>dv_mul1 (dv_int 1 _) (dv_xk v i),ext_co v fun j=>?_⟩
  have hK:(msum (fun i=>c (k i:Rat)*xk v i) rest.length).co v j=if j<rest.length then c (k j:Rat) else 0:=by
   rw [co_msum];split
   ·rename_i hj;rw [msum_delta _ hj fun i _ hi=>by rw [co_mul_fr (fr_c _ _),co_xk_self,if_neg (Ne.symm hi)];grind];rw [co_mul_fr (fr_c _ _),co_xk_self,if_pos rfl];grind
   ·rename_i hj;rw [msum_congr (g:=fun _=>0) fun i hi=>by rw [co_mul_fr (fr_c _ _),co_xk_self,if_neg (by omega)];grind,msum_zero]
  rw [co_add,co_sub,co_mul_fr (fr_c _ _),co_xk,co_mul_fr (fr_c _ _),hK,co_polyL,co_polyL,co_polyL];have h1:=hk j
  have h2:(((redTo b rest f at_ b.length).getD j 0:Nat):Rat)=(rest.getD j 0:Nat)-(if at_<=j then (f:Rat)*(b.getD (j-at_) 0:Nat) else 0)+(pr:Rat)*(k j:Rat):=by
   have h3:=congrArg (fun z:Int=>(z:Rat)) h1;simp only [Rat.intCast_add,Rat.intCast_sub,Rat.intCast_mul,Rat.intCast_natCast] at h3;rw [h3,pr_eq];by_cases hc:at_<=j
   ·rw [if_pos hc,if_pos hc,Rat.intCast_mul,Rat.intCast_natCast,Rat.intCast_natCast];rfl
   ·rw [if_neg hc,if_neg hc];rfl
  rw [h2]
  have hk0:¬ j<rest.length->(k j:Rat)=0:=fun hj=>by
   have z1:(redTo b rest f at_ b.length).getD j 0=0:=by rw [List.getD_eq_getElem?_getD,List.getElem?_eq_none (by rw [redTo_ln];omega)];rfl
   have z2:rest.getD j 0=0:=by rw [List.getD_eq_getElem?_getD,List.getElem?_eq_none (by omega)];rfl
   have z3:b.getD (j-at_) 0=0:=by rw [List.getD_eq_getElem?_getD,List.getElem?_eq_none (by omega)];rfl
   rw [z1,z2,z3] at h1;have:k j=0:=by split at h1 <;> omega
   rw [this];rfl
  refine ext' fun x=>?_;by_cases hj:j<rest.length
  ·rw [if_pos hj];by_cases hc:at_<=j
   ·rw [if_pos hc,if_pos hc];simp only [MP.ev_add,MP.ev_sub,MP.ev_mul,ev_c]
   ·rw [if_neg hc,if_neg hc];simp only [MP.ev_add,MP.ev_sub,MP.ev_mul,ev_c,ev_zero];grind
  ·rw [if_neg hj,hk0 hj];by_cases hc:at_<=j
   ·rw [if_pos hc,if_pos hc];simp only [MP.ev_add,MP.ev_sub,MP.ev_mul,ev_c,ev_zero]
   ·rw [if_neg hc,if_neg hc];simp only [MP.ev_add,MP.ev_sub,MP.ev_mul,ev_c,ev_zero];grind
 obtain⟨K,iK,eK⟩:=key;have i1:(c (f:Rat)*xk v at_).dv 1:=dv_mul1 (dv_nat f) (dv_xk v at_);refine⟨E - c (f:Rat)*xk v at_*E',R - c (f:Rat)*xk v at_*R'+K,dv_sub iE (dv_mul1 i1 iE'),dv_add (dv_sub iR (dv_mul1 i1 iR')) iK,?_⟩;rw [eK,e,e'];grind
theorem DvP.strip {v:Nat} {F:MP} {l:List Nat} (h:DvP v F l):DvP v F (strip l):=by
 obtain⟨E,R,iE,iR,e⟩:=h;exact⟨E,R,iE,iR,by rw [polyL_strip,e]⟩
structure Gd (v:Nat) (F:MP) (l:List Nat):Prop where
 d:DvP v F l
 t:Tp l
 m:∀ x∈l,x<pr
theorem Gd.rest {v:Nat} {F:MP} {b:List Nat} (hb:Gd v F b) (inv:Nat):∀ {n:Nat} {r x:List Nat},restO b inv n r=some x->Gd v F r->Gd v F x
|0,_,_,h,_=>by cases h
|n+1,r,x,h,hr=>by
  rw [restO] at h;split at h
  ·rename_i hle;exact Gd.rest hb inv h ⟨(hr.d.red hb.d hb.m _ (by omega)).strip,strip_tp _,strip_lim (redTo_lim hr.m _)⟩
  ·simp only [Option.some.injEq] at h;subst h;exact hr
theorem Gd.share {v:Nat} {F:MP}:∀ {n:Nat} {a b:List Nat} {k:Nat},shareGo n a b=some k->Gd v F a->Gd v F b->a≠[]->∃ l,Gd v F l/\l≠[]/\l.length=k
|0,_,_,_,h,_,_,_=>by cases h
|n+1,a,b,k,h,ha,hb,hne=>by
  rw [shareGo] at h;split at h
  ·simp only [Option.some.injEq] at h;exact⟨a,ha,hne,h⟩
  ·rename_i hb0;split at h
   ·cases h
   ·rename_i r hr;exact Gd.share h hb (hb.rest _ hr ha) hb0
theorem Gd.len {v:Nat} {F:MP} {l:List Nat} (h:Gd v F l) (hne:l≠[]) (iF:F.dv 1) (hF:¬ zdv pr (F.lc v)):F.deg v<=(l.length:Int)-1:=by
 obtain⟨E,R,iE,iR,e⟩:=h.d;have hp0:0<pr:=by decide
 rcases Int.lt_or_le ((l.length:Int) - 1) (F.deg v) with hlt|hle
 ·exfalso;have eE:=sel_add (mulB pr) E;obtain⟨X,iX,eX⟩:=sel_zdv hp0 iE;obtain⟨E2,hE2⟩:∃ g,g=sel (fun t=>!mulB pr t) E:=⟨_,rfl⟩;have iE2:E2.dv 1:=by rw [hE2];exact sel_dv iE
  rw [<- hE2,eX] at eE;have e2:polyL v l=F*E2+c (pr:Rat)*(F*X+R):=by rw [e,eE];grind
  have iR2:(F*X+R).dv 1:=dv_add (dv_mul1 iF iX) iR;have hF0:F≠0:=fun h0=>hF (by rw [h0];exact zdv_zero pr);by_cases hz:E2=0
  ·have h1:=congrArg (fun g=>cf (MP.co v (l.length-1) g).l e0) e2;simp only [co_polyL,hz] at h1;have e3:F*0+c (pr:Rat)*(F*X+R)=c (pr:Rat)*(F*X+R):=by grind
   rw [e3,co_mul_fr (fr_c _ _),cf_cmul] at h1
   have i3:((F*X+R).co v (l.length-1)).dv 1:=fun t ht=>by
    have ht:t∈((F*X+R).l.filter fun u=>u.1.get v=((l.length - 1:Nat):Int)).map fun u=>(u.1.put v 0,u.2):=ht;obtain⟨u,hu,rfl⟩:=List.mem_map.1 ht;exact iR2 u (List.mem_filter.1 hu).1
   obtain⟨z,hz⟩:=int_of_dv (cf_dv i3 e0);rw [hz] at h1;have ht:=h.t hne
   have hm:l.getD (l.length-1) 0<pr:=by
    rw [List.getD_eq_getElem?_getD,List.getElem?_eq_getElem (by have:=List.length_pos_iff.2 hne;omega:l.length-1<l.length)];exact h.m _ (List.getElem_mem _)
   have e4:cf (c ((l.getD (l.length-1) 0:Nat):Rat)).l e0=((l.getD (l.length-1) 0:Nat):Rat):=by
    show cf (constP _) e0=_;rw [constP,if_neg (nat_ne (by omega)),cf_cons,cf_nil,if_pos rfl];exact Rat.add_zero _
   rw [e4,<- Rat.intCast_natCast,<- Rat.intCast_natCast,<- Rat.intCast_mul] at h1;have h5:=Rat.intCast_inj.1 h1;have h6:(0:Int)<((l.getD (l.length-1) 0:Nat):Int):=by omega
   rw [pr_eq] at *;omega
  ·have h1:=congrArg (fun g=>MP.co v ((F.deg v).toNat+(E2.deg v).toNat) g) e2;simp only [co_add] at h1;rw [co_mul_top v hF0 hz,co_mul_fr (fr_c _ _)] at h1;have hd:=deg_polyL v l;have:=deg_pos hF0 v;rw [co_above (by omega)] at h1
   have i3:((F*X+R).co v ((F.deg v).toNat+(E2.deg v).toNat)).dv 1:=fun t ht=>by
    have ht:t∈((F*X+R).l.filter fun u=>u.1.get v=(((F.deg v).toNat+(E2.deg v).toNat:Nat):Int)).map fun u=>(u.1.put v 0,u.2):=ht;obtain⟨u,hu,rfl⟩:=List.mem_map.1 ht;exact iR2 u (List.mem_filter.1 hu).1
   have icoF:(F.lc v).dv 1:=fun t ht=>by
    have ht:t∈(F.l.filter fun u=>u.1.get v=((F.deg v).toNat:Int)).map fun u=>(u.1.put v 0,u.2):=ht;obtain⟨u,hu,rfl⟩:=List.mem_map.1 ht;exact iF u (List.mem_filter.1 hu).1
   have icoE:(E2.lc v).dv 1:=fun t ht=>by
    have ht:t∈(E2.l.filter fun u=>u.1.get v=((E2.deg v).toNat:Int)).map fun u=>(u.1.put v 0,u.2):=ht;obtain⟨u,hu,rfl⟩:=List.mem_map.1 ht;exact iE2 u (List.mem_filter.1 hu).1
   have hz2:zdv pr (F.lc v*E2.lc v):=⟨-((F*X+R).co v ((F.deg v).toNat+(E2.deg v).toNat)),dv_neg i3,by grind⟩;rcases zdv_prime prm_pr icoF icoE hz2 with h3|h3
   ·exact hF h3
   ·obtain⟨Y,iY,eY⟩:=h3;obtain⟨t,r,ht⟩:=head_ex (lc_ne hz v);have htm:t∈(E2.lc v).l:=by rw [ht];simp
    have h4:=cf_mem htm;rw [eY,cf_cmul] at h4;have htm':t∈(E2.l.filter fun u=>u.1.get v=((E2.deg v).toNat:Int)).map fun u=>(u.1.put v 0,u.2):=htm;obtain⟨u,hu,rfl⟩:=List.mem_map.1 htm';have hu1:=(List.mem_filter.1 hu).1;rw [hE2] at hu1;have hu2:u∈E.l.filter (fun t=>!mulB pr t):=hu1;have hu3:=(List.mem_filter.1 hu2).2;obtain⟨y,hy⟩:=int_of_dv (cf_dv iY (u.1.put v 0));obtain⟨x,hx⟩:=int_of_dv (iE u (List.mem_filter.1 hu2).1);simp only [mulB,Bool.not_eq_true',decide_eq_false_iff_not,hx] at hu3;have h4:(pr:Rat)*cf Y.l (u.1.put v 0)=u.2:=h4;rw [hy,hx,<- Rat.intCast_natCast,<- Rat.intCast_mul] at h4;exact hu3 (Int.emod_eq_zero_of_dvd ⟨y,(Rat.intCast_inj.1 h4).symm⟩)
 ·exact hle
theorem subs_c (v t:Nat) (r:Rat):∀ w,subs v t w (c r)=c r
|0=>rfl
|w+1=>by simp only [subs];split <;> simp only [subs_c v t r w,at_c]
theorem subs_fr (v t:Nat) (p:MP):∀ w,w<=4->∀ u,u<w->u≠v->(subs v t w p).fr u
|0,_,u,h,_=>by omega
|w+1,hw,u,h,hne=>by
  simp only [subs];split
  ·rename_i e;exact subs_fr v t p w (by omega) u (by omega) hne
  ·rcases Nat.eq_or_lt_of_le (show u<=w by omega) with e|h1
   ·subst e;exact fr_at _ _ _
   ·have h2:(subs v t w p).deg u<=(0:Nat):=subs_fr v t p w (by omega) u h1 hne;exact deg_at _ _ (by omega) (by omega) h2
theorem cf_co (v i:Nat) (hv:v<4) (p:MP):cf (p.co v i).l e0=cf p.l (e0.put v i):=by
 show Lf _ (coeffP p.l v i)=Lf _ _;rw [Lf_coeff];refine Lf_congr fun s _=>?_;by_cases h:s.1=e0.put v i
 ·rw [if_pos h,h,Ex.get_put,if_pos rfl,Ex.put_put,if_pos];have:=Ex.put_get e0 v;rw [e0_get] at this;exact this
 ·rw [if_neg h];by_cases h2:s.1.get v=(i:Int)
  ·rw [if_pos h2,if_neg fun h3=>h (by rw [<- h3,Ex.put_put,<- h2,Ex.put_get])]
  ·rw [if_neg h2]
theorem c_cf {p:MP} (h:p.lo 0):p=c (cf p.l e0):=by
 obtain⟨r,rfl⟩:=const_of h
 congr 1
 show r=cf (constP r) e0;unfold constP;split
 ·rename_i h;rw [h];rfl
 ·rw [cf_cons,cf_nil,if_pos rfl];exact (Rat.add_zero _).symm
theorem co_subs (v t i:Nat) (hv:v<4) (p:MP):(subs v t 4 p).co v i=c (cf (subs v t 4 p).l (e0.put v i)):=by
 rw [<- cf_co v i hv];refine c_cf fun w _ hw=>?_;by_cases h:w=v
 ·subst h;exact co_fr _ _ _
 ·exact fr_co hw hv (subs_fr v t p 4 (Nat.le_refl _) w hw h)
def prodD:List Trm->Nat
|[]=>1
|t::l=>t.2.den*prodD l
theorem prodD_pos:∀ l,0<prodD l
|[]=>Nat.one_pos
|t::l=>Nat.mul_pos t.2.den_pos (prodD_pos l)
theorem prodD_dv:∀ {l:List Trm},∀ t∈l,Dv (prodD l) t.2
|s::l,t,h=>by
  rcases List.mem_cons.1 h with rfl|h
  ·exact (dv_den _).dvd (Nat.dvd_mul_right _ _)
  ·exact (prodD_dv t h).dvd (Nat.dvd_mul_left _ _)
theorem imgGo_prod {v t:Nat}:∀ {l:List Trm} {out x:List Nat},imgGo v t l out=some x->¬ pr∣prodD l
|[],_,_,_=>by decide
|m::l,out,x,h=>by
  rw [imgGo] at h;split at h
  ·cases h
  ·rename_i hres;have ih:=imgGo_prod h;intro hd;rcases prm_dvdN prm_pr hd with h1|h1
   ·apply hres;have h2:=resid_cg (m.2.den:Int);have h3:=resid_lt (m.2.den:Int);obtain⟨a,ha⟩:=h1;obtain⟨b,hb⟩:=h2;rw [pr_eq] at ha;omega
   ·exact ih h1
theorem imgGo_lim {v t:Nat}:∀ {l:List Trm} {out x:List Nat},imgGo v t l out=some x->(∀ y∈out,y<pr)->∀ y∈x,y<pr
|[],out,x,h,ho=>by simp only [imgGo,Option.some.injEq] at h;subst h;exact ho
|m::l,out,x,h,ho=>by
  rw [imgGo] at h;split at h
  ·cases h
  ·refine imgGo_lim h fun y hy=>?_;rcases List.mem_or_eq_of_mem_set hy with hy|rfl
   ·exact ho y hy
   ·exact Nat.mod_lt _ (by decide)
theorem bez {N:Nat} (h:¬ pr∣N):∃ M K:Int,(N:Int)*M=1+(pr:Int)*K:=by
 have h0:0<N % pr:=Nat.pos_of_ne_zero fun e=>h (Nat.dvd_of_mod_eq_zero e);have hlt:N % pr<pr:=Nat.mod_lt _ (by decide);have h1:=inv_pr h0 hlt;have h2:=Cg.mod (powm (N % pr) (pr - 2)*(N % pr));rw [h1] at h2;have h3:=Cg.mod N;have h4:=(Cg.refl ((powm (N % pr) (pr - 2):Nat):Int)).mul h3;rw [Int.natCast_mul] at h2;obtain⟨k,hk⟩:=(h2.trans h4).symm;exact⟨powm (N % pr) (pr - 2),k,by rw [pr_eq];rw [Int.mul_comm];exact hk⟩
structure Im (v:Nat) (d:MP) (F:MP) (x:List Nat):Prop where
 g:Gd v F x
 ne:x≠[]
 i:F.dv 1
 l:¬ zdv pr (F.lc v)
 dg:F.deg v=d.deg v
theorem co_dv {D:Nat} {p:MP} (h:p.dv D) (v n:Nat):(p.co v n).dv D:=fun t ht=>by
 have ht:t∈(p.l.filter fun u=>u.1.get v=(n:Int)).map fun u=>(u.1.put v 0,u.2):=ht;obtain⟨u,hu,rfl⟩:=List.mem_map.1 ht;exact h u (List.mem_filter.1 hu).1
theorem img_im {v t:Nat} (hv:v<4) {a d:MP} (ha:a≠0) (he:∀ m∈a.l,∀ w,m.1.get w<18446744073709551616) {r:Rat} (hr:r≠0) (hp:pz (c r*d)) (hd:d∣a) {x:List Nat} (hx:imgO a.l v t=some x) (hf:fineB (some x)=true) :
  Im v d (subs v t 4 (c r*d)) x:=by
 obtain⟨e,rfl⟩:=hd;have hpd:=imgGo_prod hx;obtain⟨N,hN⟩:∃ N,N=prodD (d*e).l:=⟨_,rfl⟩;rw [<- hN] at hpd;have hN0:0<N:=by rw [hN];exact prodD_pos _
 have hdv:(d*e).dv N:=by rw [hN];exact fun t ht=>prodD_dv t ht
 obtain⟨D,hD⟩:∃ D,D=c r*d:=⟨_,rfl⟩;rw [<- hD] at hp ⊢;obtain⟨E,hE⟩:∃ E,E=c ((N:Rat)*r⁻¹)*e:=⟨_,rfl⟩
 have hA:c (N:Rat)*(d*e)=D*E:=by
  rw [hD,hE]
  have h1:c r*c ((N:Rat)*r⁻¹)=c (N:Rat):=by
   rw [c_mul];congr 1;have:=Rat.mul_inv_cancel _ hr;grind
  rw [<- h1];grind
 have iE:E.dv 1:=gaussZ (dv_clear hdv) hp hA
 have hAA:c (N:Rat)*subs v t 4 (d*e)=subs v t 4 D*subs v t 4 E:=by
  rw [<- subs_mul,<- hA,subs_mul v t 4 (c (N:Rat)),subs_c]
 have d0:d≠0:=fun h=>ha (by rw [h];grind);have e0':e≠0:=fun h=>ha (by rw [h];grind);have hdeg:=deg_pos ha v;have hlen0:(List.replicate (degP (d*e).l v+1).toNat 0).length=((d*e).deg v+1).toNat:=by rw [List.length_replicate];rfl
 obtain⟨L,hL⟩:∃ L,L=((d*e).deg v+1).toNat:=⟨_,rfl⟩;rw [<- hL] at hlen0
 obtain⟨h1,h2⟩:=imgGo_cg (N:=N) hv hx (d*e).v.nat he hdv fun m hm=>by
  rw [hlen0];have:=degP_le hm v;have h':(d*e).deg v=degP (d*e).l v:=rfl;have:=Ex.nat_get ((d*e).v.nat m hm) v;omega
 rw [hlen0] at h1 h2
 have hz:∀ i,c (N:Rat)*(subs v t 4 (d*e)).co v i=c ((cS N v t i (d*e).l:Int):Rat):=fun i=>by
  rw [co_subs v t i hv,c_mul,cf_subs v t hv,cS_eq hdv]
 have hx0:∀ i,L<=i->x.getD i 0=0:=fun i hi=>by rw [List.getD_eq_getElem?_getD,List.getElem?_eq_none (by omega)];rfl
 have hco0:∀ i,L<=i->(subs v t 4 (d*e)).co v i=0:=fun i hi=>co_above (by
  have:=subs_deg v t hv 4 (Nat.le_refl _) (p:=d*e) (u:=v) (d:=((d*e).deg v).toNat) hv (by omega);omega)
 have hxm:∀ y∈x,y<pr:=imgGo_lim hx fun y hy=>by rw [(List.mem_replicate.1 hy).2];decide
 have hne:x≠[]:=fun h=>by rw [h] at h1;simp at h1;omega
 have hlast:x.getD (x.length-1) 0≠0:=of_decide_eq_true hf
 -- the congruence of polynomials
 have ⟨k,hk⟩:∃ k:Nat->Int,∀ i,i<L->(N:Int)*x.getD i 0=cS N v t i (d*e).l+2147483647*k i :=
  ⟨fun i=>((N:Int)*x.getD i 0-cS N v t i (d*e).l) / 2147483647,fun i hi=>by
   obtain⟨k,hk⟩:=h2 i hi;rw [getD_replicate] at hk
   simp only [hk];omega⟩
 have hpoly:c (N:Rat)*polyL v x=c (N:Rat)*subs v t 4 (d*e)+c (pr:Rat)*msum (fun i=>c (k i:Rat)*xk v i) L:=ext_co v fun i=>by
  have hK:(msum (fun i=>c (k i:Rat)*xk v i) L).co v i=if i<L then c (k i:Rat) else 0:=by
   rw [co_msum];split
   ·rename_i hj;rw [msum_delta _ hj fun j _ hi=>by rw [co_mul_fr (fr_c _ _),co_xk_self,if_neg (Ne.symm hi)];grind];rw [co_mul_fr (fr_c _ _),co_xk_self,if_pos rfl];grind
   ·rename_i hj;rw [msum_congr (g:=fun _=>0) fun j hj=>by rw [co_mul_fr (fr_c _ _),co_xk_self,if_neg (by omega)];grind,msum_zero]
  rw [co_add,co_mul_fr (fr_c _ _),co_mul_fr (fr_c _ _),co_mul_fr (fr_c _ _),hK,co_polyL];rcases Nat.lt_or_ge i L with hi|hi
  ·rw [if_pos hi,hz,c_mul,c_mul,<- c_add];congr 1;have:=congrArg (fun z:Int=>(z:Rat)) (hk i hi);simp only [Rat.intCast_add,Rat.intCast_mul,Rat.intCast_natCast] at this;rw [this,pr_eq];rfl
  ·rw [if_neg (by omega),hco0 i hi,hx0 i hi];have e1:c ((0:Nat):Rat)=0:=rfl;rw [e1];grind
 obtain⟨M,K,hMK⟩:=bez hpd
 have hDv:DvP v (subs v t 4 D) x:=by
  refine⟨c (M:Rat)*subs v t 4 E,c (M:Rat)*msum (fun i=>c (k i:Rat)*xk v i) L-c (K:Rat)*polyL v x,dv_mul1 (dv_int 1 _) (subs_dv v t 4 iE),dv_sub (dv_mul1 (dv_int 1 _) (dv_msum fun i _=>dv_mul1 (dv_int 1 _) (dv_xk v i))) (dv_mul1 (dv_int 1 _) (dv_polyL v x)),?_⟩
  have h3:c (N:Rat)*c (M:Rat)=1+c (pr:Rat)*c (K:Rat):=by
   rw [c_mul,c_mul,<- c_one,<- c_add];congr 1;have:=congrArg (fun z:Int=>(z:Rat)) hMK;simp only [Rat.intCast_add,Rat.intCast_mul,Rat.intCast_natCast] at this;exact this
  have h4:c (M:Rat)*(c (N:Rat)*polyL v x)=c (M:Rat)*(subs v t 4 D*subs v t 4 E+c (pr:Rat)*msum (fun i=>c (k i:Rat)*xk v i) L):=by rw [hpoly,hAA]
  grind
 have htop:¬ zdv pr ((c (N:Rat)*subs v t 4 (d*e)).co v (L-1)):=fun⟨Y,iY,eY⟩=>by
  rw [co_mul_fr (fr_c _ _),hz] at eY;have h3:=congrArg (fun g:MP=>cf g.l e0) eY
  have hcc:∀ r:Rat,cf (c r).l e0=r:=fun r=>by
   show cf (constP r) e0=r;unfold constP;split
   ·rename_i h;rw [h];rfl
   ·rw [cf_cons,cf_nil,if_pos rfl];exact Rat.add_zero _
  simp only [cf_cmul,hcc] at h3;obtain⟨y,hy⟩:=int_of_dv (cf_dv iY e0);rw [hy,<- Rat.intCast_natCast,<- Rat.intCast_mul] at h3;have h4:=Rat.intCast_inj.1 h3;have h5:=hk (L - 1) (by omega)
  have h6:pr∣N*x.getD (L-1) 0:=by
   refine Int.ofNat_dvd.1 ⟨y+k (L-1),?_⟩;rw [Int.natCast_mul,h5,h4,pr_eq,Int.mul_add];rfl
  rcases prm_dvdN prm_pr h6 with h7|h7
  ·exact hpd h7
  ·rw [h1] at hlast;have h8:=Nat.le_of_dvd (Nat.pos_of_ne_zero hlast) h7
   have h9:x.getD (L-1) 0<pr:=by
    rw [List.getD_eq_getElem?_getD,List.getElem?_eq_getElem (by omega:L-1<x.length)];exact hxm _ (List.getElem_mem _)
   omega
 have hAA0:c (N:Rat)*subs v t 4 (d*e)≠0:=fun h=>htop (by rw [h];exact zdv_zero pr)
 have hdA:(L-1:Nat)<=(c (N:Rat)*subs v t 4 (d*e)).deg v:=by
  rcases Int.lt_or_le ((c (N:Rat)*subs v t 4 (d*e)).deg v) (L - 1:Nat) with h|h
  ·exact absurd (by rw [co_above h];exact zdv_zero pr) htop
  ·exact h
 have hDD0:subs v t 4 D≠0:=fun h=>hAA0 (by rw [hAA,h];grind);have hEE0:subs v t 4 E≠0:=fun h=>hAA0 (by rw [hAA,h];grind);have hDd:D.deg v=d.deg v:=by rw [hD,deg_mul (c_ne hr) d0,fr_deg (fr_c _ _) (c_ne hr)];omega
 have hEd:E.deg v=e.deg v:=by
  have hc0:c ((N:Rat)*r⁻¹)≠0:=c_ne (rmul_ne (nat_ne hN0) fun h=>by have:=Rat.mul_inv_cancel _ hr;rw [h] at this;grind);rw [hE,deg_mul hc0 e0',fr_deg (fr_c _ _) hc0];omega
 have hdd:=deg_mul d0 e0' v;have hd1:=subs_deg v t hv 4 (Nat.le_refl _) (p:=D) (u:=v) (d:=(D.deg v).toNat) hv (by omega);have hd2:=subs_deg v t hv 4 (Nat.le_refl _) (p:=E) (u:=v) (d:=(E.deg v).toNat) hv (by omega);have hdp:=deg_pos d0 v;have hep:=deg_pos e0' v;rw [hAA,deg_mul hDD0 hEE0] at hdA;have hFd:(subs v t 4 D).deg v=d.deg v:=by omega
 refine⟨⟨hDv,fun _=>hlast,hxm⟩,hne,subs_dv v t 4 hp.1,fun hzd=>htop ?_,hFd⟩;have:L-1=((subs v t 4 D).deg v).toNat+((subs v t 4 E).deg v).toNat:=by omega
 rw [hAA,this,co_mul_top v hDD0 hEE0];exact zdv_mul hzd (co_dv (subs_dv v t 4 iE) _ _)
theorem share_deg {v t:Nat} (hv:v<4) {a b d:MP} (ha:a≠0) (hb:b≠0) (hea:∀ m∈a.l,∀ w,m.1.get w<18446744073709551616) (heb:∀ m∈b.l,∀ w,m.1.get w<18446744073709551616) (hda:d∣a) (hdb:d∣b) {x y:List Nat}
  (hx:imgO a.l v t=some x) (hfx:fineB (some x)=true) (hy:imgO b.l v t=some y) (hfy:fineB (some y)=true) {n:Nat} (hs:shareO x y=some n):d.deg v+1<=n:=by
 obtain⟨r,hr,hp⟩:=pz_of (dvd_ne ha hda);have ix:=img_im hv ha hea hr hp hda hx hfx;have iy:=img_im hv hb heb hr hp hdb hy hfy
 have key:∃ l,Gd v (subs v t 4 (c r*d)) l/\l≠[]/\l.length=n:=by
  unfold shareO at hs;split at hs
  ·exact Gd.share hs iy.g ix.g iy.ne
  ·exact Gd.share hs ix.g iy.g ix.ne
 obtain⟨l,h1,h2,h3⟩:=key;have:=h1.len h2 ix.i ix.l;rw [ix.dg,h3] at this;omega
theorem boundGo_deg {v:Nat} (hv:v<4) {a b d:MP} (ha:a≠0) (hb:b≠0) (hea:∀ m∈a.l,∀ w,m.1.get w<18446744073709551616) (heb:∀ m∈b.l,∀ w,m.1.get w<18446744073709551616) (hda:d∣a) (hdb:d∣b) :
  ∀ {l:List Nat} {m:Int},boundGo a.l b.l v l=some m->d.deg v<=m
|[],m,h=>by
  simp only [boundGo,Option.some.injEq] at h;have h1:=dvd_deg ha hda v;have h2:=dvd_deg hb hdb v;have e1:a.deg v=degP a.l v:=rfl;have e2:b.deg v=degP b.l v:=rfl;omega
|k::l,m,h=>by
  rw [boundGo] at h;split at h
  ·rename_i x y hx hy;split at h
   ·rename_i hf;rw [Bool.and_eq_true] at hf
    cases hs:shareO x y with
   |none=>rw [hs] at h;cases h
   |some n =>
     rw [hs] at h;have h:some ((n:Int)-1)=some m:=h;have h:=Option.some.inj h;have:=share_deg hv ha hb hea heb hda hdb hx hf.1 hy hf.2 hs;omega
   ·exact boundGo_deg hv ha hb hea heb hda hdb h
  ·exact boundGo_deg hv ha hb hea heb hda hdb h
theorem restO_ex {b:List Nat} (hb:b≠[]) (ht:Tp b) (hm:∀ x∈b,x<pr):∀ (n:Nat) (r:List Nat),r.length<n->(∀ x∈r,x<pr)->∃ x,restO b (powm (b.getD (b.length-1) 0) (pr-2)) n r=some x/\x.length<b.length
|0,_,h,_=>by omega
|n+1,r,h,hr=>by
  rw [restO];have hb1:=List.length_pos_iff.2 hb;split
  ·rename_i hle;obtain⟨f,hf⟩:∃ f,f=r.getD (r.length - 1) 0*powm (b.getD (b.length - 1) 0) (pr - 2) % pr:=⟨_,rfl⟩;rw [<- hf]
   have hl:(strip (redTo b r f (r.length-b.length) b.length)).length<r.length:=by
    have h1:=strip_lt (l:=redTo b r f (r.length-b.length) b.length) (fun e=>by have:=redTo_ln b r f (r.length-b.length) b.length;rw [e] at this;simp at this;omega) (by
     rw [redTo_ln,redTo_get b.length (by omega),if_pos (by omega),show r.length - 1 - (r.length - b.length)=b.length - 1 by omega];have hb0:=ht hb;obtain⟨y,hy⟩:∃ y,y=b.getD (b.length - 1) 0:=⟨_,rfl⟩;have hyl:y<pr:=by rw [hy,List.getD_eq_getElem?_getD,List.getElem?_eq_getElem (by omega:b.length - 1<b.length)];exact hm _ (List.getElem_mem _)
     rw [<- hy] at hb0 hf ⊢;obtain⟨z,hz⟩:∃ z,z=r.getD (r.length - 1) 0:=⟨_,rfl⟩;rw [<- hz] at hf ⊢;have hi:=inv_pr (Nat.pos_of_ne_zero hb0) hyl;obtain⟨i,hi2⟩:∃ i,i=powm y (pr - 2):=⟨_,rfl⟩;rw [<- hi2] at hi hf;have c1:=Cg.mod (z*i);rw [<- hf] at c1;have c2:=Cg.mod (i*y);rw [hi] at c2
     have c3:Cg ((z+(pr-y)*f:Nat):Int) 0:=by
      rw [Int.natCast_add,Int.natCast_mul,Int.ofNat_sub (by omega)];obtain⟨k1,hk1⟩:=c1;obtain⟨k2,hk2⟩:=c2;rw [Int.natCast_mul] at hk1 hk2;refine⟨f - y*k1+z*k2,?_⟩;rw [pr_eq];have e1:(y:Int)*f=y*(z*i+2147483647*k1):=by rw [hk1]
      have e2:(z:Int)=z*(i*y+2147483647*k2):=by rw [<- hk2];omega
      grind
     exact Nat.mod_eq_zero_of_dvd (Int.ofNat_dvd.1 (by rw [pr_eq];exact c3.zero)))
    rw [redTo_ln] at h1;exact h1
   exact restO_ex hb ht hm n _ (by omega) (strip_lim (redTo_lim hr _))
  ·exact⟨r,rfl,by omega⟩
theorem Gd.tp_rest {b:List Nat} (inv:Nat):∀ {n:Nat} {r x:List Nat},restO b inv n r=some x->Tp r->(∀ y∈r,y<pr)->Tp x/\∀ y∈x,y<pr
|0,_,_,h,_,_=>by cases h
|n+1,r,x,h,hr,hm=>by
  rw [restO] at h;split at h
  ·exact Gd.tp_rest inv h (strip_tp _) (strip_lim (redTo_lim hm _))
  ·simp only [Option.some.injEq] at h;subst h;exact⟨hr,hm⟩
theorem shareGo_ex:∀ (n:Nat) (a b:List Nat),b.length<n->a.length<fuel->b.length<fuel->Tp a->Tp b->(∀ x∈a,x<pr)->(∀ x∈b,x<pr)->∃ k,shareGo n a b=some k
|0,_,_,h,_,_,_,_,_,_=>by omega
|n+1,a,b,h,ha,hb,ta,tb,ma,mb=>by
  rw [shareGo];split
  ·exact⟨_,rfl⟩
  ·rename_i hb0;obtain⟨x,hx,hxl⟩:=restO_ex hb0 tb mb fuel a ha ma;have hx2:=Gd.tp_rest _ hx ta ma;rw [hx];exact shareGo_ex n b x (by omega) hb (by omega) tb hx2.1 mb hx2.2
theorem imgO_ln {a:List Trm} {v t:Nat} {x:List Nat} (h:imgO a v t=some x):x.length=(degP a v+1).toNat:=by
 have key:∀ {l:List Trm} {out x:List Nat},imgGo v t l out=some x->x.length=out.length:=by
  intro l
  induction l with
 |nil=>intro out x h;simp only [imgGo,Option.some.injEq] at h;subst h;rfl
 |cons m l ih =>
   intro out x h;rw [imgGo] at h;split at h
   ·cases h
   ·rw [ih h,List.length_set]
 rw [key h,List.length_replicate]
theorem boundGo_ex {a b:List Trm} {v:Nat} (ha:degP a v+1<fuel) (hb:degP b v+1<fuel):∀ l,∃ m,boundGo a b v l=some m
|[]=>⟨_,rfl⟩
|k::l=>by
  rw [boundGo];split
  ·rename_i x y hx hy;split
   ·rename_i hf;rw [Bool.and_eq_true] at hf;have hx1:=imgO_ln hx;have hy1:=imgO_ln hy;have tx:Tp x:=fun _=>of_decide_eq_true hf.1;have ty:Tp y:=fun _=>of_decide_eq_true hf.2;have mx:∀ z∈x,z<pr:=imgGo_lim hx fun y hy=>by rw [(List.mem_replicate.1 hy).2];decide
    have my:∀ z∈y,z<pr:=imgGo_lim hy fun y hy=>by rw [(List.mem_replicate.1 hy).2];decide
    have hfu:0<fuel:=by decide
    have key:∃ n,shareO x y=some n:=by
     unfold shareO;split
     ·exact shareGo_ex fuel y x (by omega) (by omega) (by omega) ty tx my mx
     ·exact shareGo_ex fuel x y (by omega) (by omega) (by omega) tx ty mx my
    obtain⟨n,hn⟩:=key;rw [hn];exact⟨_,rfl⟩
   ·exact boundGo_ex ha hb l
  ·exact boundGo_ex ha hb l
end Q
end
section
namespace Q
open Go Go.Proofs.YtopclbeomcggiaaGreat
def evl (x:Pt) (v:Nat) (L:List (List Trm)):Rat:=rsum (fun i=>ev x (L.getD i [])*x.get v ^ i) L.length
theorem rsum_mul (c:Rat) (f:Nat->Rat):∀ n,rsum (fun i=>c*f i) n=c*rsum f n
|0=>by simp [rsum]
|n+1=>by simp only [rsum,rsum_mul c f n];grind
theorem rsum_shift (a:Nat) (g:Nat->Rat):∀ n,rsum (fun i=>if a<=i then g (i-a) else 0) (a+n)=rsum g n
|0=>by
  have:∀ k,k<=a->rsum (fun i=>if a<=i then g (i-a) else 0) k=0:=by
   intro k
   induction k with
  |zero=>intro _;rfl
  |succ k ih=>intro h;simp only [rsum];rw [ih (by omega),if_neg (by omega)];grind
  rw [Nat.add_zero,this a (Nat.le_refl _)];rfl
|n+1=>by
  rw [<- Nat.add_assoc];simp only [rsum];rw [rsum_shift a g n,if_pos (by omega),Nat.add_sub_cancel_left]
def VldA (L:List (List Trm)):Prop:=∀ c∈L,Vld c
theorem VldA.get {L:List (List Trm)} (h:VldA L) (i:Nat):Vld (L.getD i []):=by
 rw [List.getD_eq_getElem?_getD]
 cases hi:L[i]? with
|none=>exact Vld.nil
|some c=>exact h c (List.mem_of_getElem? hi)
theorem psStep_get {D R:List (List Trm)} {i:Nat} (h:i<R.length-1):(psStep D R).getD i []=if R.length-1-(D.length-1)<=i then subP (mulP (R.getD i []) (D.getD (D.length-1) [])) (mulP (R.getD (R.length-1) []) (D.getD (i-(R.length-1-(D.length-1))) [])) else mulP (R.getD i []) (D.getD (D.length-1) []):=by
 rw [List.getD_eq_getElem?_getD];simp [psStep,h]
theorem psStep_vld (D R:List (List Trm)):VldA (psStep D R):=fun c hc=>by
 simp only [psStep,List.mem_map] at hc;obtain⟨i,-,rfl⟩:=hc;split
 ·exact Vld.sub _ _
 ·exact Vld.mul _ _
theorem evl_step (x:Pt) (v:Nat) {D R:List (List Trm)} (hD:VldA D) (hR:VldA R) (h1:1<=D.length) (h2:D.length-1<R.length) :
  evl x v (psStep D R)=ev x (D.getD (D.length-1) [])*evl x v R-ev x (R.getD (R.length-1) [])*x.get v ^ (R.length-1-(D.length-1))*evl x v D:=by
 obtain⟨n,hn⟩:∃ n,D.length=n+1:=⟨D.length - 1,by omega⟩;obtain⟨a,ha⟩:∃ a,R.length=a+n+1:=⟨R.length - 1 - n,by omega⟩;have e1:R.length - 1=a+n:=by omega
 have e2:D.length-1=n:=by omega
 have e3:a+n-n=a:=by omega
 unfold evl;rw [psStep_len,e1,e2,e3]
 have hs:rsum (fun i=>ev x ((psStep D R).getD i [])*x.get v ^ i) (a+n)=rsum (fun i=>ev x (D.getD n [])*(ev x (R.getD i [])*x.get v ^ i)+(if a<=i then (fun j=>(-(ev x (R.getD (a+n) [])*x.get v ^ a))*(ev x (D.getD j [])*x.get v ^ j)) (i-a) else 0)) (a+n):=by
  refine rsum_congr fun i hi=>?_;rw [psStep_get (by omega),e1,e2,e3];by_cases hia:a<=i
  ·rw [if_pos hia,if_pos hia,ev_sub x (Vld.mul _ _).nat (Vld.mul _ _),ev_mul x (hR.get _).nat (hD.get _).nat,ev_mul x (hR.get _).nat (hD.get _).nat];have:x.get v ^ i=x.get v ^ a*x.get v ^ (i-a):=by rw [<- rpow_add];congr 1;omega
   simp only;rw [this];grind
  ·rw [if_neg hia,if_neg hia,ev_mul x (hR.get _).nat (hD.get _).nat];grind
 have hsh:=rsum_shift a (fun j=>(-(ev x (R.getD (a+n) [])*x.get v ^ a))*(ev x (D.getD j [])*x.get v ^ j)) n;rw [hs,rsum_add,hsh,rsum_mul,rsum_mul,ha,hn];simp only [rsum];rw [rpow_add];grind
def psQuo (v:Nat) (D:List (List Trm)):Nat->List (List Trm)->List Trm
|0,_=>[]
|f+1,R=>if D.length-1<R.length then addP (mulP (mulP (R.getD (R.length-1) []) (powP (varP v) (R.length-1-(D.length-1)))) (powP (D.getD (D.length-1) []) (R.length-1-(D.length-1)))) (psQuo v D f (psStep D R)) else []
theorem psQuo_vld (v:Nat) (D:List (List Trm)):∀ f R,Vld (psQuo v D f R)
|0,_=>Vld.nil
|f+1,R=>by unfold psQuo;split;exact Vld.add _ _;exact Vld.nil
theorem psRun_vld (D:List (List Trm)):∀ f R,VldA R->VldA (psRun D f R)
|0,_,h=>h
|f+1,R,h=>by unfold psRun;split;exact psRun_vld D f _ (psStep_vld D R);exact h
theorem evl_run (x:Pt) (v:Nat) {D:List (List Trm)} (hD:VldA D) (h1:1<=D.length):∀ f R,VldA R->R.length<=D.length-1+f ->
  ev x (D.getD (D.length-1) []) ^ (R.length-(D.length-1))*evl x v R-evl x v (psRun D f R)=ev x (psQuo v D f R)*evl x v D
|0,R,_,h=>by
  have:R.length-(D.length-1)=0:=by omega
  simp only [psRun,psQuo];rw [this,Rat.pow_zero,ev_nil];grind
|f+1,R,hR,h=>by
  unfold psRun psQuo;by_cases hlt:D.length-1<R.length
  ·rw [if_pos hlt,if_pos hlt];have ih:=evl_run x v hD h1 f (psStep D R) (psStep_vld D R) (by rw [psStep_len];omega);have hs:=evl_step x v hD hR h1 hlt;rw [psStep_len] at ih;have e1:R.length-(D.length-1)=(R.length-1-(D.length-1))+1:=by omega
   rw [ev_add x (Vld.mul _ _).nat (psQuo_vld v D f _).nat,ev_mul x (Vld.mul _ _).nat (Vld.pow _ _).nat,ev_mul x (hR.get _).nat (Vld.pow _ _).nat,ev_pow x (hD.get _).nat,ev_pow x (Vld.var v).nat,ev_var,e1,Rat.pow_succ];grind
  ·rw [if_neg hlt,if_neg hlt];have:R.length-(D.length-1)=0:=by omega
   rw [this,Rat.pow_zero,ev_nil];grind
end Q
end
section
namespace Q
open MP Go.Proofs.YtopclbeomcggiaaGreat
theorem psRun_len (D:List (List Trm)):∀ (f:Nat) (R:List (List Trm)),R.length<=D.length-1+f->(psRun D f R).length<=max (D.length-1) 0
|0,R,h=>by simp only [psRun];omega
|f+1,R,h=>by
  unfold psRun;by_cases hlt:D.length-1<R.length
  ·rw [if_pos hlt];exact psRun_len D f _ (by rw [psStep_len];omega)
  ·rw [if_neg hlt];omega
def FrA (v:Nat) (L:List (List Trm)):Prop:=∀ c∈L,∀ t∈c,t.1.get v=0
theorem FrA.get {v:Nat} {L:List (List Trm)} (h:FrA v L) (i:Nat):∀ t∈L.getD i [],t.1.get v=0:=by
 rw [List.getD_eq_getElem?_getD]
 cases hi:L[i]? with
|none=>intro t ht;cases ht
|some c=>exact h c (List.mem_of_getElem? hi)
theorem fr_mulP {v:Nat} {p q:List Trm} (hp:∀ t∈p,t.1.get v=0) (hq:∀ t∈q,t.1.get v=0):∀ t∈mulP p q,t.1.get v=0 :=
 canon_ex (P:=fun e=>e.get v=0) fun t ht=>by
  obtain⟨a,ha,b,hb,rfl⟩:=mem_prods ht;show (a.1.add b.1).get v=0;rw [Ex.get_add,hp a ha,hq b hb];rfl
theorem fr_subP {v:Nat} {p q:List Trm} (hp:∀ t∈p,t.1.get v=0) (hq:∀ t∈q,t.1.get v=0):∀ t∈subP p q,t.1.get v=0 :=
 canon_ex (P:=fun e=>e.get v=0) fun t ht=>by
  rcases List.mem_append.1 ht with h|h
  ·exact hp t h
  ·obtain⟨s,hs,rfl⟩:=scale_mem h;exact hq s hs
theorem psStep_fr {v:Nat} {D R:List (List Trm)} (hD:FrA v D) (hR:FrA v R):FrA v (psStep D R):=fun c hc=>by
 simp only [psStep,List.mem_map] at hc;obtain⟨i,-,rfl⟩:=hc;split
 ·exact fr_subP (fr_mulP (hR.get _) (hD.get _)) (fr_mulP (hR.get _) (hD.get _))
 ·exact fr_mulP (hR.get _) (hD.get _)
theorem psRun_fr {v:Nat} {D:List (List Trm)} (hD:FrA v D):∀ (f:Nat) (R:List (List Trm)),FrA v R->FrA v (psRun D f R)
|0,_,h=>h
|f+1,R,h=>by unfold psRun;split;exact psRun_fr hD f _ (psStep_fr hD h);exact h
theorem coeffs_fr (p:List Trm) (v:Nat):FrA v (coeffsP p v):=fun c hc t ht=>by
 obtain⟨n,rfl⟩:=mem_coeffsP hc;obtain⟨u,_,rfl⟩:=List.mem_map.1 ht;exact Ex.get_put _ _ _
theorem coeffs_vld {p:List Trm} (h:Vld p) (v:Nat):VldA (coeffsP p v):=fun c hc=>by
 obtain⟨n,rfl⟩:=mem_coeffsP hc;exact h.coeff v n
def prem (v:Nat) (a b:MP):MP:=⟨fromP (psRun (coeffsP b.l v) (coeffsP a.l v).length (coeffsP a.l v)) v,canon_val _⟩
theorem psO_eq {a b:MP} {v:Nat} {r:List Trm} (h:psO a.l b.l v=some r):r=(prem v a b).l/\b≠0:=by
 unfold psO at h;simp only at h;split at h
 ·rename_i hc;exact⟨(g1_some h).1,fun e=>hc.1 (by rw [e];rfl)⟩
 ·cases h
theorem ev_evl (x:Pt) (v:Nat) {L:List (List Trm)} (h:VldA L):ev x (fromP L v)=evl x v L:=ev_from x v fun c hc=>(h c hc).nat
theorem prem_spec {a b:MP} (hb:b≠0) (v:Nat):∃ (q:MP) (s:Nat),(b.lc v) ^ s*a=q*b+prem v a b/\(prem v a b).deg v<=b.deg v-1:=by
 have hD:=coeffs_vld b.v v;have hR:=coeffs_vld a.v v;have hbd:=deg_pos hb v;have hlen:(coeffsP b.l v).length=(b.deg v).toNat+1:=by rw [coeffsP_length];have e:degP b.l v=b.deg v:=rfl;omega
 have hle:(coeffsP a.l v).length<=(coeffsP b.l v).length-1+(coeffsP a.l v).length:=by omega
 refine⟨⟨psQuo v (coeffsP b.l v) (coeffsP a.l v).length (coeffsP a.l v),psQuo_vld _ _ _ _⟩,(coeffsP a.l v).length-((coeffsP b.l v).length-1),MP.ext' fun x=>?_,?_⟩
 ·have h:=evl_run x v hD (by omega) (coeffsP a.l v).length (coeffsP a.l v) hR hle;have ea:evl x v (coeffsP a.l v)=ev x a.l:=by rw [<- ev_evl x v hR,from_coeffs a.v]
  have eb:evl x v (coeffsP b.l v)=ev x b.l:=by rw [<- ev_evl x v hD,from_coeffs b.v]
  have er:evl x v (psRun (coeffsP b.l v) (coeffsP a.l v).length (coeffsP a.l v))=MP.ev x (prem v a b):=(ev_evl x v (psRun_vld _ _ _ hR)).symm
  have el:ev x ((coeffsP b.l v).getD ((coeffsP b.l v).length-1) [])=MP.ev x (b.lc v):=by
   rw [hlen,Nat.add_sub_cancel,coeffsP_get (by have e:degP b.l v=b.deg v:=rfl;omega)];rfl
  rw [ea,eb,er,el] at h;rw [MP.ev_add,MP.ev_mul,MP.ev_mul,MP.ev_pow];show _*ev x a.l=ev x (psQuo v (coeffsP b.l v) _ _)*ev x b.l+_;grind
 ·obtain⟨L,hL⟩:∃ L,L=psRun (coeffsP b.l v) (coeffsP a.l v).length (coeffsP a.l v):=⟨_,rfl⟩;have hl:=psRun_len (coeffsP b.l v) (coeffsP a.l v).length (coeffsP a.l v) hle;have hf:=psRun_fr (coeffs_fr b.l v) (coeffsP a.l v).length (coeffsP a.l v) (coeffs_fr a.l v);have hv:=psRun_vld (coeffsP b.l v) (coeffsP a.l v).length (coeffsP a.l v) hR
  have e:prem v a b=msum (fun i=>⟨(psRun (coeffsP b.l v) (coeffsP a.l v).length (coeffsP a.l v)).getD i [],hv.get i⟩*xk v i) (psRun (coeffsP b.l v) (coeffsP a.l v).length (coeffsP a.l v)).length:=MP.ext' fun x=>by
   rw [ev_msum];show ev x (fromP _ v)=_;rw [ev_from x v fun c hc=>(hv c hc).nat];refine rsum_congr fun i _=>?_;rw [MP.ev_mul,ev_xk];rfl
  rw [e];refine deg_msum (by omega) fun i hi=>?_;have h0:(⟨(psRun (coeffsP b.l v) (coeffsP a.l v).length (coeffsP a.l v)).getD i [],hv.get i⟩:MP).fr v:=fr_of (hf.get i);have h1:=deg_mul_le v _ (xk v i) h0 (Int.le_of_eq (deg_xk v i)) (by omega);omega
theorem divO_some {b g:List Trm} {gt:Trm} (hb:Vld b) (hg:b=gt::g):∀ {n:Nat} {a out res:List Trm},Vld a->NatL out->divO b gt n a out=some (some res)->NatL res/\∀ x,ev x res*ev x b=ev x out*ev x b+ev x a
|0,_,_,_,_,_,h=>by simp [divO] at h
|n+1,[],out,res,_,ho,h=>by
  simp only [divO,Option.some.injEq] at h;subst h;exact⟨ho,fun x=>by rw [ev_nil];grind⟩
|n+1,m::a,out,res,ha,ho,h=>by
  rw [divO] at h;split at h
  ·split at h
   ·rename_i hn;split at h
    ·have hq:NatL [quoT m gt]:=fun t ht=>by rw [List.mem_singleton.1 ht];exact hn
     obtain⟨h1,h2⟩:=divO_some hb hg (Vld.sub _ _) (ho.append hq) h;refine⟨h1,fun x=>?_⟩;rw [h2 x,ev_append,Q.ev_sub x ha.nat (Vld.mul _ _),Q.ev_mul x hb.nat hq];grind
    ·cases h
   ·cases h
  ·cases h
theorem divO_none {b g:List Trm} {gt:Trm} (hb:Vld b) (hg:b=gt::g):∀ {n:Nat} {a out:List Trm},Vld a->divO b gt n a out=some none->∀ q,Vld q->a≠mulP q b
|0,_,_,_,h=>by simp [divO] at h
|n+1,[],out,_,h=>by simp [divO] at h
|n+1,m::a,out,ha,h=>by
  intro q hq e;subst hg;have hz:=(hb.2 gt (by simp)).1
  cases q with
 |nil=>cases e
 |cons x s =>
   have hx:=hq.2 x (by simp);obtain⟨h1,h2⟩:=mul_top hq hb;obtain⟨a',ha'⟩:=head_is (Vld.mul _ _) (rmul_ne hx.1 hz) h1 h2;rw [ha'] at e;have em:m=(x.1.add gt.1,x.2*gt.2):=(List.cons.inj e).1;have hqm:quoT m gt=x:=by rw [em];exact quo_back hz
   have hnat:(m.1.sub gt.1).nat=true:=by
    have:(quoT m gt).1=x.1:=by rw [hqm]
    show (quoT m gt).1.nat=true;rw [this];exact hx.2
   rw [divO] at h;split at h
   ·split at h
    ·have h3:=sub_back hq hb Vld.nil;have e0:addP (mulP (x::s) (gt::g)) []=mulP (x::s) (gt::g):=ev_inj (Vld.add _ _) (Vld.mul _ _) fun y=>by rw [Q.ev_add y (Vld.mul _ _).nat NatL.nil,ev_nil];grind
     have e1:addP (mulP s (gt::g)) []=mulP s (gt::g):=ev_inj (Vld.add _ _) (Vld.mul _ _) fun y=>by rw [Q.ev_add y (Vld.mul _ _).nat NatL.nil,ev_nil];grind
     rw [e0,e1] at h3;refine divO_none hb rfl (Vld.sub _ _) h s hq.tail ?_;rw [hqm,e,<- ha',h3]
    ·cases h
   ·cases h
theorem overO_eq {a b q:MP} {r:List Trm} (hb:b≠0) (e:a=q*b) (h:overO a.l b.l=some r):r=q.l:=by
 obtain⟨t,l,hl⟩:=head_ex hb;unfold overO divW at h;rw [hl] at h;simp only at h;split at h
 ·rename_i o ho
  cases o with
 |none=>exact absurd (show a.l=mulP q.l (t::l) by rw [<- hl];exact congrArg MP.l e) (divO_none (hl ▸ b.v) rfl a.v ho q.l q.v)
 |some res =>
   obtain⟨h1,h2⟩:=divO_some (hl ▸ b.v) rfl a.v NatL.nil ho;obtain⟨h3,h4⟩:=g1_some h;have h3:r=res:=h3;subst h3;have hv:Vld r:=h4.val
   have:(⟨r,hv⟩:MP)*b=q*b:=MP.ext' fun x=>by
    rw [MP.ev_mul,<- e];have:=h2 x;rw [ev_nil,<- hl] at this;show ev x r*ev x b.l=ev x a.l;grind
   have h5:b*(⟨r,hv⟩:MP)=b*q:=by grind
   exact congrArg MP.l (MP.cancel hb h5)
 ·cases h
def hd (a:MP):Rat:=match a.l with
|[]=>0
|t::_=>t.2
def nrm (a:MP):MP:=c (1 / hd a)*a
theorem hd_ne {a:MP} (h:a≠0):hd a≠0:=by
 obtain⟨t,l,e⟩:=head_ex h;have:=(a.v.2 t (by rw [e];simp)).1;unfold hd;rw [e];exact this
theorem hd_cmul {r:Rat} (hr:r≠0) (a:MP):hd (c r*a)=hd a*r:=by
 unfold hd;rw [c_mul_l];show (match scaleP a.l r with|[]=>0|t::_=>t.2)=_;unfold scaleP;rw [if_neg hr]
 cases a.l with
|nil=>simp
|cons t l=>rfl
theorem hd_nrm {a:MP} (h:a≠0):hd (nrm a)=1:=by
 have h1:=hd_ne h
 have h2:(1:Rat) / hd a≠0:=fun e=>by
  have:=Rat.div_mul_cancel (a:=1) h1;rw [e] at this;grind
 rw [nrm,hd_cmul h2];have:=Rat.div_mul_cancel (a:=1) h1;grind
theorem nrm_zero:nrm 0=0:=by rw [nrm];grind
theorem nrm_dvd {a:MP} (h:a≠0):nrm a∣a/\a∣nrm a:=by
 have h1:=hd_ne h;refine⟨⟨c (hd a),?_⟩,⟨c (1 / hd a),by rw [nrm];grind⟩⟩;have h3:c (1 / hd a)*c (hd a)=1:=by rw [c_mul,Rat.div_mul_cancel h1];rfl
 rw [nrm];grind
theorem normO_eq {a:MP} {r:List Trm} (h:normO a.l=some r):r=(nrm a).l:=by
 cases e:a.l with
|nil =>
  rw [e] at h;simp only [normO,Option.some.injEq] at h;rw [zero_iff.2 e,nrm_zero,<- h];rfl
|cons t l =>
  rw [e] at h;simp only [normO] at h;rw [(g1_some h).1,nrm,c_mul_l];have:hd a=t.2:=by unfold hd;rw [e]
  rw [this];show _=scaleP a.l (1 / t.2);rw [e]
theorem nrm_eq {a b:MP} (ha:a≠0) (h1:a∣b) (h2:b∣a) (n1:hd a=1) (n2:hd b=1):a=b:=by
 obtain⟨u,rfl⟩:=h1;have hu:=unit_cancel ha h2;obtain⟨r,rfl⟩:=const_of (lo0_unit hu);have hr:r≠0:=fun e=>unit_ne hu (by rw [e];rfl);have e:a*c r=c r*a:=by grind
 rw [e,hd_cmul hr,n1] at n2;have:r=1:=by grind
 rw [this,c_one];grind
end Q
end
