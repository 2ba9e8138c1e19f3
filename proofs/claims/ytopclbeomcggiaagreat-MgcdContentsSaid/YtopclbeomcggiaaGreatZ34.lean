/- Fermat's little theorem and inverses modulo 2^31 - 1. No program in sight. -/
import Derived.Test.YtopclbeomcggiaaGreatZ33
set_option linter.unusedVariables false
set_option linter.unusedSimpArgs false
set_option maxHeartbeats 16000000
set_option maxRecDepth 100000
section
namespace Q
def lu (f:Nat->Nat):Nat->Nat
 | 0=>0
 | n+1=>lu f n+f n
theorem EA{f g:Nat->Nat}:∀{n:Nat},(∀i,i<n->f i=g i)->lu f n=lu g n
 | 0,_=>rfl
 | n+1,h=>by rw[lu,lu,EA λi b=>h i (by omega),h n (by omega)]
theorem Li(f g:Nat->Nat):∀n,lu (λi=>f i+g i) n=lu f n+lu g n
 | 0=>rfl
 | n+1=>by rw[lu,Li f g n,lu,lu];omega
theorem Lj(c:Nat)(f:Nat->Nat):∀n,lu (λi=>c*f i) n=c*lu f n
 | 0=>rfl
 | n+1=>by rw[lu,Lj c f n,lu,Nat.mul_add]
theorem wI(f:Nat->Nat):∀n,lu f (n+1)=f 0+lu (λi=>f (i+1)) n
 | 0=>by simp[lu]
 | n+1=>by rw[lu,wI f n,lu];omega
theorem Ll{p:Nat}{f:Nat->Nat}:∀{n:Nat},(∀i,i<n->p∣f i)->p∣lu f n
 | 0,_=>Nat.dvd_zero p
 | n+1,h=>Nat.dvd_add (Ll λi b=>h i (by omega)) (h n (by omega))
def ch:Nat->Nat->Nat
 | _,0=>1
 | 0,_+1=>0
 | n+1,k+1=>ch n k+ch n (k+1)
theorem yX(n:Nat):ch n 0=1:=by cases n<;>rfl
theorem EC:∀{n k:Nat},n<k->ch n k=0
 | _,0,h=>by omega
 | 0,_+1,_=>rfl
 | n+1,k+1,h=>by rw[ch,EC (show n<k by omega),EC (show n<k+1 by omega)]
theorem Pn:∀n,ch n n=1
 | 0=>rfl
 | n+1=>by rw[ch,Pn n,EC (Nat.lt_succ_self n)]
theorem IZ:∀n k,(k+1)*ch (n+1) (k+1)=(n+1)*ch n k
 | 0,0=>rfl
 | 0,k+1=>by have e:ch 1 (k+2)=0:=EC oM;rw[e];rfl
 | n+1,0=>by have h:=IZ n 0;have e:ch (n+2) 1=ch (n+1) 0+ch (n+1) 1:=rfl;rw[yX]at h;rw[show n+1+1=n+2 from rfl,e,yX];rw[show 0+1=1 from rfl]at h;omega
 | n+1,k+1=>by have b:=IZ n k;have d:=IZ n (k+1);have e:ch (n+2) (k+2)=ch (n+1) (k+1)+ch (n+1) (k+2):=rfl;have e2:ch (n+1) (k+1)=ch n k+ch n (k+1):=rfl;rw[e];have i:(k+1+1)*(ch (n+1) (k+1)+ch (n+1) (k+2))=(k+1)*ch (n+1) (k+1)+ch (n+1) (k+1)+(k+1+1)*ch (n+1) (k+2):=gR;rw[i,b,d,e2];grind
theorem Xx(x:Nat):∀n,(x+1)^n=lu (λk=>ch n k*x^k) (n+1)
 | 0=>by simp[lu,ch]
 | n+1=>by
  rw[Nat.pow_succ,Xx x n,wI (λk=>ch (n+1) k*x^k)]
  have d:lu (λi=>ch (n+1) (i+1)*x^(i+1)) (n+1)=x*lu (λk=>ch n k*x^k) (n+1)+lu (λi=>ch n (i+1)*x^(i+1)) (n+1):=by rw[<-Lj,<-Li];refine EA λi _=>?_;show(ch n i+ch n (i+1))*x^(i+1)=_;rw[Nat.pow_succ];grind
  rw[d]
  have e:lu (λi=>ch n (i+1)*x^(i+1)) (n+1)=lu (λi=>ch n (i+1)*x^(i+1)) n:=by rw[lu,EC (Nat.lt_succ_self n)];omega
  have b:=wI (λk=>ch n k*x^k) n;rw[e,yX,Nat.pow_zero];rw[yX,Nat.pow_zero]at b;have h:lu (λk=>ch n k*x^k) (n+1)*(x+1)=x*lu (λk=>ch n k*x^k) (n+1)+lu (λk=>ch n k*x^k) (n+1):=gR;rw[h,b];omega
theorem ED{p:Nat}(hp:RQ p){a b:Nat}(h:p∣a*b):p∣a\/p∣b:=by have:=Cq hp (a:=a) (b:=b) (by rw[<-Int.natCast_mul];exact Int.ofNat_dvd.2 h);exact this.imp Int.ofNat_dvd.1 Int.ofNat_dvd.1
theorem Uw{p:Nat}(hp:RQ p){k:Nat}(d:0<k)(e:k<p):p∣ch p k:=by
 obtain⟨j,rfl⟩:∃j,k=j+1:=⟨k - 1,oM⟩;obtain⟨n,rfl⟩:∃n,p=n+1:=⟨p - 1,oM⟩;rcases ED hp (a:=j+1) (b:=ch (n+1) (j+1)) ⟨ch n j,IZ n j⟩with h|h
 ·have:=Nat.le_of_dvd d h;omega
 ·exact h
theorem zaI{p:Nat}(hp:RQ p)(x:Nat):(x+1)^p%p=(x^p+1)%p:=by have d:=hp.1;obtain⟨n,rfl⟩:∃n,p=n+1:=⟨p - 1,oM⟩;rw[Xx x (n+1),lu,wI,yX,Pn,Nat.pow_zero];obtain⟨k,b⟩:(n+1)∣lu (λi=>ch (n+1) (i+1)*x^(i+1)) n:=Ll λi h=>Nat.dvd_mul_right_of_dvd (Uw hp oM oM) _;rw[b];have e:1*1+(n+1)*k+1*x^(n+1)=(x^(n+1)+1)+(n+1)*k:=oM;rw[e,Nat.add_mul_mod_self_left]
theorem Po{p:Nat}(hp:RQ p):∀x:Nat,x^p%p=x%p
 | 0=>by rw[Nat.zero_pow (by have:=hp.1;omega)]
 | x+1=>by rw[zaI hp,Nat.add_mod,Po hp x,<-Nat.add_mod]
theorem YP{p:Nat}(hp:RQ p){x:Nat}(h:¬p∣x):x^(p-2)*x%p=1:=by
 have l:=hp.1;have i:=Po hp x;obtain⟨n,rfl⟩:∃n,p=n+2:=⟨p - 2,oM⟩;rw[Nat.add_sub_cancel];have e:x^(n+2)=x*(x^n*x):=by rw[Nat.pow_succ,Nat.pow_succ];grind
 rw[e]at i
 have j:((n+2:Nat):Int)∣(x:Int)*((x^n*x:Nat)-1:Int):=by
  have b:=Int.emod_emod_of_dvd
  have:((x*(x^n*x):Nat):Int)%((n+2:Nat):Int)=(x:Int)%((n+2:Nat):Int):=by rw[<-Int.natCast_emod,<-Int.natCast_emod,i]
  have d:=Int.dvd_of_emod_eq_zero (Int.emod_eq_emod_iff_emod_sub_eq_zero.1 this)
  have e2:(x:Int)*((x^n*x:Nat)-1:Int)=((x*(x^n*x):Nat):Int)-x:=by rw[Int.natCast_mul x];grind
  rw[e2];exact d
 rcases Cq hp j with b|b
 ·exact absurd (Int.ofNat_dvd.1 b) h
 ·have d:=Int.emod_eq_zero_of_dvd b;have k:=Int.emod_eq_emod_iff_emod_sub_eq_zero.2 d
  have m:((x^n*x%(n+2):Nat):Int)=1:=by rw[Int.natCast_emod,k];exact Int.emod_eq_of_lt oM oM
  omega
def chk (p n:Nat):Nat->Bool
 | 0=>true
 | f+1=>match p%(n-f)with
  | 0=>false
  | _+1=>chk p n f
theorem Ux{p n:Nat}:∀{f:Nat},chk p n f=true->∀k,n-f<k->k<=n->¬k∣p
 | 0,_=>λk d b=>by omega
 | f+1,h=>λk d b hd=>by
  rw[chk]at h;split at h
  ·cases h
  ·rename_i hm;rcases Nat.eq_or_lt_of_le (show n - f<=k by omega)with e|hlt
   ·rw[e]at hm;rw[Nat.mod_eq_zero_of_dvd hd]at hm;cases hm
   ·exact Ux h k hlt b hd
theorem YQ:chk 2147483647 46340 46339=true:=dK
theorem EE:RQ pr:=by
 refine⟨dM,λm hm=>?_⟩;rw[mW]at *;obtain⟨k,b⟩:=hm;have i:∀j,1<j->j<=46340->¬j∣2147483647:=λj l d=>Ux YQ j oM d;rcases Nat.lt_or_ge m 2 with h|h
 ·left;rcases Nat.eq_zero_or_pos m with e|h'
  ·rw[e,Nat.zero_mul]at b;cases b
  ·omega
 ·rcases Nat.lt_or_ge m 46341 with d|d
  ·exact absurd ⟨k,b⟩ (i m oM oM)
  ·rcases Nat.lt_or_ge k 46341 with h3|h3
   ·rcases Nat.lt_or_ge k 2 with h4|h4
    ·right;rcases Nat.eq_zero_or_pos k with e|h'
     ·rw[e,Nat.mul_zero]at b;cases b
     ·obtain rfl:k=1:=oM;omega
    ·exact absurd ⟨m,by rw[b];exact Nat.mul_comm _ _⟩ (i k oM oM)
   ·have:=Nat.mul_le_mul d h3;omega
theorem Pp:∀(f out a n:Nat),n<2^f->out<pr->Di f out a n=out*a^n%pr
 | 0,out,a,n,h,b=>by
  obtain rfl:n=0:=by simpa using h
  rw[Di,Nat.pow_zero,nU,Nat.mod_eq_of_lt b]
 | f+1,out,a,n,h,b=>by
  rw[Di];split
  ·rename_i j;rw[j,Nat.pow_zero,nU,Nat.mod_eq_of_lt b]
  ·have d:(if n%2=1 then out*a%pr else out)<pr:=by
    split
    ·exact Nat.mod_lt _ dM
    ·exact b
   rw[Pp f _ _ _ (by rw[Nat.pow_succ]at h;omega) d]
   have i:(a*a%pr)^(n/2)%pr=a^(2*(n/2))%pr:=by rw[<-Nat.pow_mod,Nat.pow_mul,Nat.pow_two]
   have k:=Nat.div_add_mod n 2;split
   ·rename_i b;rw[Nat.mul_mod,i,<-Nat.mul_mod,Nat.mod_mul_mod];have e:n=2*(n/2)+1:=oM
    conv=>rhs;rw[e,Nat.pow_succ]
    congr 1;grind
   ·rw[Nat.mul_mod,i,<-Nat.mul_mod];have e:n=2*(n/2):=oM
    conv=>rhs;rw[e]
theorem Pq(a:Nat){n:Nat}(h:n<18446744073709551616):mK a n=a^n%pr:=by rw[mK,Pp 64 1 a n (by simpa using h) dM,Nat.one_mul]
theorem NR{x:Nat}(b:0<x)(h:x<pr):mK x (pr-2)*x%pr=1:=by rw[Pq x dM,Nat.mod_mul_mod];exact YP EE λhd=>by have:=Nat.le_of_dvd b hd;omega
end Q
end
section
namespace Q
open MP
def jo (v t:Nat):Nat->MP->MP
 | 0,p=>p
 | w+1,p=>if w=v then jo v t w p else at' w ((t+w:Nat):Rat) (jo v t w p)
theorem yY(v t:Nat):∀(w:Nat)(p q:MP),jo v t w (p*q)=jo v t w p*jo v t w q
 | 0,_,_=>rfl
 | w+1,p,q=>by
  simp only[jo];split
  ·exact yY v t w p q
  ·rw[yY v t w p q,Ez]
theorem za(v t:Nat){D:Nat}:∀(w:Nat){p:MP},p.dv D->(jo v t w p).dv D
 | 0,_,h=>h
 | w+1,p,h=>by
  simp only[jo];split
  ·exact za v t w h
  ·rw[<-iN];exact Un (za v t w h) w _
theorem vL(v t:Nat)(hv:v<4):∀(w:Nat),w<=4->∀{p:MP}{u d:Nat},u<4->p.deg u<=d->(jo v t w p).deg u<=d
 | 0,_,_,_,_,_,h=>h
 | w+1,hw,p,u,d,hu,h=>by
  simp only[jo];split
  ·exact vL v t hv w (by omega) hu h
  ·exact IX _ _ (by omega) hu (vL v t hv w (by omega) hu h)
def GL (v t:Nat) (e:Ex):Nat->Nat
 | 0=>1
 | w+1=>if w=v then GL v t e w else GL v t e w*(t+w)^(e.get w).toNat
def Vz (v:Nat) (e:Ex):Nat->Ex
 | 0=>e
 | w+1=>if w=v then Vz v e w else(Vz v e w).put w 0
theorem Cr(v:Nat)(hv:v<4)(e:Ex):∀w,w<=4->∀u,u<4->(Vz v e w).get u=if u<w/\u≠v then 0 else e.get u
 | 0,_,u,_=>by simp[Vz]
 | w+1,hw,u,hu=>by
  have i:=Cr v hv e w oM u hu;simp only[Vz];split
  ·rename_i h;rw[i];by_cases b:u<w/\u≠v
   ·rw[if_pos b,if_pos ⟨oM,b.2⟩]
   ·rw[if_neg b,if_neg oM]
  ·rename_i h;by_cases b:w=u
   ·subst b;rw[Ex.get_put,if_pos ⟨oM,h⟩]
   ·rw[Ex.get_put_ne _ oM hu b,i];by_cases d:u<w/\u≠v
    ·rw[if_pos d,if_pos ⟨oM,d.2⟩]
    ·rw[if_neg d,if_neg oM]
theorem Z4(f:Ex->Rat)(w:Nat)(r:Rat)(p:MP):Lf f (at' w r p).l=Lf (λe=>r^(e.get w).toNat * f (e.put w 0)) p.l:=by have h:dI (evalL p.l w r):=dI.evalL p.v.nat w r;show Lf f (canon (evalL p.l w r))=_;rw[jA h f];exact wZ _ _ _ _ λt _=>by show t.2*r^_*f (t.1.put w 0)=_;grind
theorem Ps(v t:Nat)(hv:v<4)(p:MP):∀(w:Nat),w<=4->∀f:Ex->Rat,Lf f (jo v t w p).l=Lf (λe=>(GL v t e w:Rat)*f (Vz v e w)) p.l
 | 0,_,f=>iU λs _=>by show f s.1=((1:Nat):Rat)*f s.1;have e:((1:Nat):Rat)=1:=rfl;rw[e];grind
 | w+1,hw,f=>by
  have b:=Ps v t hv p w oM;by_cases h:w=v
  ·simp only[jo,GL,Vz,if_pos h];exact b f
  ·simp only[jo,GL,Vz,if_neg h];rw[Z4,b];refine iU λs _=>?_;have e:(Vz v s.1 w).get w=s.1.get w:=by rw[Cr v hv s.1 w oM w oM,if_neg oM]
   rw[e,Rat.natCast_mul,Rat.natCast_pow];grind
theorem WE(v t:Nat)(hv:v<4)(p:MP)(i:Nat):cf (jo v t 4 p).l (e0.put v i)=Lf (λe=>if e.get v=i then(GL v t e 4:Rat)else 0) p.l:=by
 show Lf _ _=_;rw[Ps v t hv p 4 (nL _)];refine iU λs _=>?_
 have e:(Vz v s.1 4=e0.put v i)↔s.1.get v=(i:Int):=by
  constructor
  ·intro h;have:=congrArg (Ex.get · v) h;simp only[Cr v hv s.1 4 (nL _) v hv,Ex.get_put]at this;rw[if_neg oM]at this;exact this
  ·intro h;refine Ex.ext4 λu hu=>?_;rw[Cr v hv s.1 4 (nL _) u hu];by_cases hc:v=u
   ·subst hc;rw[if_neg oM,Ex.get_put,h]
   ·rw[if_pos ⟨hu,Ne.symm hc⟩,Ex.get_put_ne _ hv hu hc,CQ]
 by_cases hc:s.1.get v=(i:Int)
 ·rw[if_pos hc,if_pos (e.2 hc)];grind
 ·rw[if_neg hc,if_neg λh=>hc (e.1 h)];grind
def Cg (a b:Int):Prop:=∃k:Int,a=b+2147483647*k
theorem Cg.refl(a:Int):Cg a a:=⟨0,oM⟩
theorem Cg.symm{a b:Int}(h:Cg a b):Cg b a:=by obtain⟨k,h⟩:=h;exact⟨-k,oM⟩
theorem Cg.trans{a b c:Int}(h:Cg a b)(d:Cg b c):Cg a c:=by obtain⟨k,h⟩:=h;obtain⟨l,d⟩:=d;exact⟨k+l,oM⟩
theorem Cg.add{a b c d:Int}(h:Cg a b)(e:Cg c d):Cg (a+c) (b+d):=by obtain⟨k,h⟩:=h;obtain⟨l,e⟩:=e;exact⟨k+l,oM⟩
theorem Cg.mul{a b c d:Int}(h:Cg a b)(e:Cg c d):Cg (a*c) (b*d):=by obtain⟨k,rfl⟩:=h;obtain⟨l,rfl⟩:=e;exact⟨b*l+k*d+2147483647*k*l,gR⟩
theorem Cg.mod(a:Nat):Cg ((a%pr:Nat):Int) a:=⟨-((a/pr:Nat):Int),by have:=Nat.div_add_mod a pr;rw[mW]at *;omega⟩
theorem Cg.zero{a:Int}(h:Cg a 0):(2147483647:Int)∣a:=by obtain⟨k,h⟩:=h;exact⟨k,oM⟩
theorem Cg.cancel{a b d:Int}(hd:¬(2147483647:Int)∣d)(h:Cg (a*d) (b*d)):Cg a b:=by
 obtain⟨k,h⟩:=h;have i:((pr:Nat):Int)∣(a - b)*d:=⟨k,by rw[mW];grind⟩;rcases Cq EE i with e|e
 ·obtain⟨l,e⟩:=e;exact⟨l,by rw[mW]at e;omega⟩
 ·rw[mW]at e;exact absurd e hd
theorem zb(z:Int):Cg (gG z) z:=by
 unfold gG;split
 ·exact⟨(z.natAbs/2147483647:Nat)+1,by have:=Nat.div_add_mod z.natAbs 2147483647;omega⟩
 ·rename_i h;by_cases hz:z<0
  ·exact⟨(z.natAbs/2147483647:Nat),by have:=Nat.div_add_mod z.natAbs 2147483647;omega⟩
  ·exact⟨-((z.natAbs/2147483647:Nat):Int),by have:=Nat.div_add_mod z.natAbs 2147483647;omega⟩
theorem WF(a:Nat){n:Nat}(h:n<18446744073709551616):Cg (mK a n) ((a^n:Nat):Int):=by rw[Pq a h];exact Cg.mod _
theorem Pv{m:ai}{v t:Nat}(i:m.1.nat=true)(he:∀w,m.1.get w<18446744073709551616):∀w:Nat,Cg (Ag m v t w) ((gG m.2.num*mK (gG m.2.den) (pr-2):Nat)*(GL v t m.1 w:Nat):Int)
 | 0=>by rw[Ag,GL];have:=Cg.mod (gG m.2.num*mK (gG m.2.den) (pr-2));have e:∀x:Int,x*((1:Nat):Int)=x:=λx=>oM;rw[e];exact this
 | w+1=>by
  rw[Ag,GL];have b:=Pv (v:=v) (t:=t) i he w;split
  ·exact b
  ·have h:=WF (t+w) (n:=(m.1.get w).toNat) (by have:=he w;omega);have d:=(Cg.mod (Ag m v t w*mK (t+w) (m.1.get w).toNat)).trans (by rw[Int.natCast_mul];exact b.mul h);rw[Int.natCast_mul (GL v t m.1 w),<-Int.mul_assoc];exact d
theorem WG{m:ai}{v t:Nat}(p:m.1.nat=true)(he:∀w,m.1.get w<18446744073709551616)(hd:gG m.2.den≠0):Cg (Q4 m v t*m.2.den) (m.2.num*(GL v t m.1 4:Nat)):=by
 have i:=Pv (v:=v) (t:=t) p he 4;have j:=zb m.2.num;have k:=zb (m.2.den:Int);have b:gG (m.2.den:Int)<pr:=vE _;have l:=NR (x:=gG (m.2.den:Int)) oM b;have d:=Cg.mod (mK (gG m.2.den) (pr-2)*gG m.2.den);rw[l]at d
 have n:Cg ((mK (gG m.2.den) (pr-2):Nat)*(m.2.den:Int)) 1:=by have:=(Cg.refl ((mK (gG m.2.den) (pr-2):Nat):Int)).mul k;refine(this.symm.trans ?_);rw[<-Int.natCast_mul];exact d.symm
 have o:=i.mul (Cg.refl (m.2.den:Int));refine o.trans ?_;have h:=(j.mul n).mul (Cg.refl (GL v t m.1 4:Int));rw[Int.mul_one]at h;rw[Int.natCast_mul];have e:(gG m.2.num:Int)*(mK (gG m.2.den) (pr-2):Nat)*(GL v t m.1 4:Nat)*m.2.den=(gG m.2.num:Int)*((mK (gG m.2.den) (pr-2):Nat)*(m.2.den:Int))*(GL v t m.1 4:Nat):=gR;rw[e];exact h
def cS (N v t i:Nat):List ai->Int
 | []=>0
 | m::l=>(if m.1.get v=(i:Int)then(m.2*(N:Rat)).num*(GL v t m.1 4:Nat)else 0)+cS N v t i l
theorem Xy{N v t i:Nat}:∀{l:List ai},(∀m∈l,Dv N m.2)->(N:Rat)*Lf (λe=>if e.get v=i then(GL v t e 4:Rat)else 0) l=(cS N v t i l:Rat)
 | [],_=>by show(N:Rat)*0=((0:Int):Rat);rw[Rat.mul_zero];rfl
 | m::l,h=>by
  have j:=Xy (i:=i) (v:=v) (t:=t) (l:=l) λs d=>h s (by simp[d]);obtain⟨k,b⟩:=h m sM;rw[pJ,cS,Rat.intCast_add,<-j,b];split
  ·rw[Rat.intCast_mul,iN];have:((k:Rat)).num=k:=rfl;rw[this,<-b];grind
  ·rw[Rat.intCast_zero];grind
theorem Lm{N v t:Nat}(hv:v<4):∀{l:List ai}{out x:List Nat},mg v t l out=some x->dI l->(∀m∈l,∀w,m.1.get w<18446744073709551616)->(∀m∈l,Dv N m.2)->(∀m∈l,(m.1.get v).toNat<out.length) ->
  x.length=out.length/\∀i,i<out.length->Cg ((N:Int)*x.getD i 0) ((N:Int)*out.getD i 0+cS N v t i l)
 | [],out,x,h,_,_,_,_=>by simp only[mg,sJ]at h;subst h;exact⟨rfl,λi _=>by rw[cS,Int.add_zero];exact Cg.refl _⟩
 | m::l,out,x,h,hn,he,hd,hk=>by
  rw[mg]at h;split at h
  ·cases h
  ·rename_i d;have hm:=hn m sM;obtain⟨o,k⟩:=Lm hv h (λs j=>hn s (by simp[j])) (λs j=>he s (by simp[j])) (λs j=>hd s (by simp[j])) (λs j=>by rw[List.length_set];exact hk s (by simp[j]));rw[List.length_set]at o k;refine⟨o,λi F=>(k i F).trans ?_⟩;rw[cS,<-Int.add_assoc];refine Cg.add ?_ (Cg.refl _);have G:=hk m sM;have E:=Ex.nat_get hm v;by_cases hc:m.1.get v=(i:Int)
   ·have e:(m.1.get v).toNat=i:=oM;rw[if_pos hc,e,jD,List.getElem?_set_self oM,Option.getD_some];have p:=Cg.mod (out.getD i 0+Q4 m v t);rw[Int.natCast_add]at p;have u:=(Cg.refl (N:Int)).mul p;refine u.trans ?_;rw[Int.mul_add];refine(Cg.refl _).add ?_;have y:=WG (v:=v) (t:=t) hm (he m sM) d;obtain⟨z,hz⟩:=hd m sM;rw[hz];show Cg _ (z*_)
    have n:¬(2147483647:Int)∣m.2.den:=λr=>d (by
     have:=zb (m.2.den:Int);have H:=vE (m.2.den:Int);obtain⟨a,ha⟩:=r;obtain⟨b,hb⟩:=this
     omega)
    refine Cg.cancel n ?_
    have B:z*m.2.den=N*m.2.num:=by
     have C:m.2*(m.2.den:Rat)=m.2.num:=by have o:(m.2.den:Rat)≠0:=jG m.2.den_pos;have k:=Rat.num_divInt_den m.2;rw[Rat.divInt_eq_div,iN]at k;have p:(m.2.num:Rat)/(m.2.den:Rat)*(m.2.den:Rat)=m.2.num:=Rat.div_mul_cancel o;rwa[k]at p
     have D:((z*m.2.den:Int):Rat)=((N*m.2.num:Int):Rat):=by rw[Rat.intCast_mul,Rat.intCast_mul,<-hz,<-C,iN,iN];grind
     exact Rat.intCast_inj.1 D
    have q:=(Cg.refl (N:Int)).mul y;have e1:(N:Int)*Q4 m v t*m.2.den=N*(Q4 m v t*m.2.den):=gR
    have e2:z*(GL v t m.1 4:Nat)*m.2.den=N*(m.2.num*(GL v t m.1 4:Nat)):=by have:z*(GL v t m.1 4:Nat)*m.2.den=(z*m.2.den)*(GL v t m.1 4:Nat):=gR;rw[this,B];grind
    rw[e1,e2];exact q
   ·have e:(m.1.get v).toNat≠i:=oM;rw[if_neg hc,Int.add_zero,jD,List.getElem?_set_ne e,<-jD];exact Cg.refl _
theorem EF(n i:Nat):(List.replicate n 0).getD i 0=0:=by
 rw[jD];rcases Nat.lt_or_ge i n with h|h
 ·rw[List.getElem?_replicate,if_pos h];rfl
 ·rw[gN (by simpa using h)];rfl
def rG (v:Nat) (l:List Nat):MP:=dA (λi=>c ((l.getD i 0:Nat):Rat)*xk v i) l.length
theorem oN(v:Nat)(l:List Nat)(i:Nat):(rG v l).co v i=c ((l.getD i 0:Nat):Rat):=by
 rw[rG,tZ];rcases Nat.lt_or_ge i l.length with h|h
 ·rw[qD _ h λj _ b=>by rw[co_mul_fr (qf _ _),fU,if_neg (Ne.symm b)];grind];rw[co_mul_fr (qf _ _),fU,if_pos rfl];grind
 ·rw[dS (g:=λ_=>0) λj b=>by rw[co_mul_fr (qf _ _),fU,if_neg oM];grind,nK];rw[jD,gN h];rfl
theorem Ri(v:Nat)(l:List Nat):(rG v l).deg v<=(l.length:Int)-1:=by refine deg_le_of oM λn b=>?_;rw[oN,jD,gN oM];rfl
theorem NS(v:Nat){p q:MP}(h:∀i,p.co v i=q.co v i):p=q:=by obtain⟨N,b⟩:∃N,N=(max (p.deg v) (q.deg v)).toNat+1:=⟨_,rfl⟩;rw[split v p (N:=N) oM,split v q (N:=N) oM];exact dS λi _=>by rw[h i]
def WH (v:Nat) (F:MP) (l:List Nat):Prop:=∃E R:MP,E.dv 1/\R.dv 1/\rG v l=F*E+c (pr:Rat)*R
theorem Uy(n:Nat):(c (n:Rat)).dv 1:=by rw[<-iN];exact xJ 1 _
theorem Pw(v k:Nat):(xk v k).dv 1:=λt b=>by rw[List.mem_singleton.1 b];exact Dv.int 1 1
theorem Uz(v:Nat)(l:List Nat):(rG v l).dv 1:=yV λi _=>jw (Uy _) (Pw v i)
theorem UA(l:List Nat)(k y i:Nat)(b:k<l.length):(l.set k y).getD i 0=if i=k then y else l.getD i 0:=by
 rw[jD];by_cases h:i=k
 ·subst h;rw[if_pos rfl,List.getElem?_set_self b];rfl
 ·rw[if_neg h,List.getElem?_set_ne (Ne.symm h),jD]
theorem Xz(r s:Rat):c (r+s)=c r+c s:=ext' λx=>by rw[MP.ev_add,ev_c,ev_c,ev_c]
theorem Ap:∀(l:List Nat)(i:Nat),(strip l).getD i 0=l.getD i 0
 | [],_=>rfl
 | x::l,i=>by
  have b:=Ap l;rw[strip];split
  ·rename_i h;rw[h]at b;have hz:∀j,l.getD j 0=0:=λj=>by rw[<-b j];rfl
   split
   ·rename_i d
    cases i with
    | zero=>rw[d];rfl
    | succ i=>have:=hz i;simpa using this.symm
   ·cases i with
    | zero=>rfl
    | succ i=>have:=hz i;simpa using this.symm
  ·rename_i y r h;rw[<-h]
   cases i with
   | zero=>rfl
   | succ i=>have:=b i;simpa using this
theorem Lp(v:Nat)(l:List Nat):rG v (strip l)=rG v l:=NS v λi=>by rw[oN,oN,Ap]
def Tp (l:List Nat):Prop:=l≠[]->l.getD (l.length-1) 0≠0
theorem ze:∀l:List Nat,Tp (strip l)
 | []=>λh=>absurd rfl h
 | x::l=>by
  have b:=ze l;rw[strip];split
  ·split
   ·exact λh=>absurd rfl h
   ·rename_i d;exact λ_=>d
  ·rename_i y r h;rw[h]at b;intro _;have:=b sM;simpa using this
theorem GM:∀l:List Nat,(strip l).length<=l.length
 | []=>nL _
 | x::l=>by
  have b:=GM l;rw[strip];split
  ·split<;>simp
  ·rename_i y r h;rw[h]at b;simpa using b
theorem UB{l:List Nat}(j:l≠[])(h:l.getD (l.length-1) 0=0):(strip l).length<l.length:=by
 have k:=GM l;rcases Nat.eq_or_lt_of_le k with e|hlt
 ·exfalso;have b:strip l≠[]:=λi=>by rw[i]at e;have:=List.length_eq_zero_iff.1 e.symm;exact j this
  have d:=ze l b;rw[Ap,e]at d;exact d h
 ·exact hlt
theorem Aq{l:List Nat}(h:∀x∈l,x<pr):∀x∈strip l,x<pr:=by
 induction l with
 | nil=>exact h
 | cons x l d =>
  have d:=d λy b=>h y (by simp[b]);rw[strip];split
  ·split
   ·intro _ b;cases b
   ·intro y b;rw[List.mem_singleton.1 b];exact h x sM
  ·rename_i z r e;rw[e]at d;intro y b;rcases List.mem_cons.1 b with rfl|b
   ·exact h _ sM
   ·exact d y b
theorem sW(b rest:List Nat)(f at_:Nat):∀i,(ja b rest f at_ i).length=rest.length
 | 0=>rfl
 | i+1=>by rw[ja,List.length_set,sW b rest f at_ i]
theorem wJ{b rest:List Nat}{f at_:Nat}(h:∀x∈rest,x<pr):∀i,∀x∈ja b rest f at_ i,x<pr
 | 0=>h
 | i+1=>λx d=>by
  rw[ja]at d;rcases List.mem_or_eq_of_mem_set d with d|rfl
  ·exact wJ h i x d
  ·exact Nat.mod_lt _ (by decide)
theorem Ar{b rest:List Nat}{f at_:Nat}:∀(i:Nat),at_+i<=rest.length->∀j,(ja b rest f at_ i).getD j 0=if at_<=j/\j<at_+i then(rest.getD j 0+(pr-b.getD (j-at_) 0)*f)%pr else rest.getD j 0
 | 0,_,j=>by rw[ja,if_neg (by omega)]
 | i+1,h,j=>by
  have k:=Ar (b:=b) (rest:=rest) (f:=f) (at_:=at_) i oM;rw[ja,UA _ _ _ _ (by rw[sW];omega),k j,k (at_+i)];by_cases e:j=at_+i
  ·subst e;rw[if_pos rfl,if_neg oM,if_pos oM,(oM:at_+i-at_=i)]
  ·rw[if_neg e];by_cases d:at_<=j/\j<at_+i
   ·rw[if_pos d,if_pos oM]
   ·rw[if_neg d,if_neg oM]
theorem WH.red{v:Nat}{F:MP}{b rest:List Nat}(J:WH v F rest)(hb:WH v F b)(p:∀x∈b,x<pr)(f:Nat){at_:Nat}(h:at_+b.length=rest.length):WH v F (ja b rest f at_ b.length):=by
 obtain⟨E,R,M,O,e⟩:=J;obtain⟨E',D,s,u,G⟩:=hb
 have key:∃K:MP,K.dv 1/\rG v (ja b rest f at_ b.length)=rG v rest-c (f:Rat)*(xk v at_*rG v b)+c (pr:Rat)*K:=by
  have hq:∀j,∃k:Int,((ja b rest f at_ b.length).getD j 0:Int)=(rest.getD j 0:Int)-(if at_<=j then(f:Int)*(b.getD (j-at_) 0:Nat)else 0)+2147483647*k:=λj=>by
   rw[Ar b.length oM];by_cases d:at_<=j/\j<at_+b.length
   ·rw[if_pos d,if_pos d.1]
    have r:b.getD (j-at_) 0<pr:=by rw[jD,gE (by omega:j-at_<b.length)];exact p _ (List.getElem_mem _)
    obtain⟨y,L⟩:∃y,y=b.getD (j - at_) 0:=⟨_,rfl⟩;rw[<-L]at r ⊢;obtain⟨k,n⟩:=Cg.mod (rest.getD j 0+(pr - y)*f);refine⟨k+f,?_⟩;rw[n,Int.natCast_add,Int.natCast_mul,Int.ofNat_sub oM,mW];grind
   ·rw[if_neg d];refine⟨0,?_⟩;by_cases o:at_<=j
    ·rw[if_pos o,jD (l:=b),gN oM];simp
    ·rw[if_neg o];omega
  have ⟨k,n⟩:∃k:Nat->Int,∀j,((ja b rest f at_ b.length).getD j 0:Int)=(rest.getD j 0:Int)-(if at_<=j then(f:Int)*(b.getD (j-at_) 0:Nat)else 0)+2147483647*k j :=
   ⟨λj=>(((ja b rest f at_ b.length).getD j 0:Int)-((rest.getD j 0:Int)-(if at_<=j then(f:Int)*(b.getD (j-at_) 0:Nat)else 0)))/2147483647,λj=>by
    obtain⟨k,n⟩:=hq j
    simp only[n];omega⟩
  refine⟨dA (λi=>c (k i:Rat)*xk v i) rest.length,yV λi _=>jw (xJ 1 _) (Pw v i),NS v λj=>?_⟩
  have I:(dA (λi=>c (k i:Rat)*xk v i) rest.length).co v j=if j<rest.length then c (k j:Rat)else 0:=by
   rw[tZ];split
   ·rename_i m;rw[qD _ m λi _ C=>by rw[co_mul_fr (qf _ _),fU,if_neg (Ne.symm C)];grind];rw[co_mul_fr (qf _ _),fU,if_pos rfl];grind
   ·rename_i m;rw[dS (g:=λ_=>0) λi C=>by rw[co_mul_fr (qf _ _),fU,if_neg oM];grind,nK]
  rw[co_add,co_sub,co_mul_fr (qf _ _),co_xk,co_mul_fr (qf _ _),I,oN,oN,oN];have d:=n j
  have o:(((ja b rest f at_ b.length).getD j 0:Nat):Rat)=(rest.getD j 0:Nat)-(if at_<=j then(f:Rat)*(b.getD (j-at_) 0:Nat)else 0)+(pr:Rat)*(k j:Rat):=by
   have B:=congrArg (λz:Int=>(z:Rat)) d;simp only[Rat.intCast_add,Rat.intCast_sub,Rat.intCast_mul,iN]at B;rw[B,mW];by_cases hc:at_<=j
   ·rw[if_pos hc,if_pos hc,Rat.intCast_mul,iN,iN];rfl
   ·rw[if_neg hc,if_neg hc];rfl
  rw[o]
  have q:¬j<rest.length->(k j:Rat)=0:=λm=>by
   have S:(ja b rest f at_ b.length).getD j 0=0:=by rw[jD,gN (by rw[sW];omega)];rfl
   have W:rest.getD j 0=0:=by rw[jD,gN oM];rfl
   have X:b.getD (j-at_) 0=0:=by rw[jD,gN oM];rfl
   rw[S,W,X]at d;have:k j=0:=by split at d<;>omega
   rw[this];rfl
  refine ext' λx=>?_;by_cases m:j<rest.length
  ·rw[if_pos m];by_cases hc:at_<=j
   ·rw[if_pos hc,if_pos hc];simp only[MP.ev_add,MP.ev_sub,MP.ev_mul,ev_c]
   ·rw[if_neg hc,if_neg hc];simp only[MP.ev_add,MP.ev_sub,MP.ev_mul,ev_c,ev_zero];grind
  ·rw[if_neg m,q m];by_cases hc:at_<=j
   ·rw[if_pos hc,if_pos hc];simp only[MP.ev_add,MP.ev_sub,MP.ev_mul,ev_c,ev_zero]
   ·rw[if_neg hc,if_neg hc];simp only[MP.ev_add,MP.ev_sub,MP.ev_mul,ev_c,ev_zero];grind
 obtain⟨K,N,H⟩:=key;have i1:(c (f:Rat)*xk v at_).dv 1:=jw (Uy f) (Pw v at_);refine⟨E - c (f:Rat)*xk v at_*E',R - c (f:Rat)*xk v at_*D+K,Er M (jw i1 s),Ep (Er O (jw i1 u)) N,?_⟩;rw[H,e,G];grind
theorem WH.strip{v:Nat}{F:MP}{l:List Nat}(h:WH v F l):WH v F (strip l):=by obtain⟨E,R,b,d,e⟩:=h;exact⟨E,R,b,d,by rw[Lp,e]⟩
structure Gd (v:Nat) (F:MP) (l:List Nat):Prop where
 d:WH v F l
 t:Tp l
 m:∀x∈l,x<pr
theorem Gd.rest{v:Nat}{F:MP}{b:List Nat}(hb:Gd v F b)(inv:Nat):∀{n:Nat}{r x:List Nat},sP b inv n r=some x->Gd v F r->Gd v F x
 | 0,_,_,h,_=>by cases h
 | n+1,r,x,h,hr=>by
  rw[sP]at h;split at h
  ·rename_i mR;exact Gd.rest hb inv h ⟨(hr.d.red hb.d hb.m _ (by omega)).strip,ze _,Aq (wJ hr.m _)⟩
  ·simp only[sJ]at h;subst h;exact hr
theorem Gd.share{v:Nat}{F:MP}:∀{n:Nat}{a b:List Nat}{k:Nat},ni n a b=some k->Gd v F a->Gd v F b->a≠[]->∃l,Gd v F l/\l≠[]/\l.length=k
 | 0,_,_,_,h,_,_,_=>by cases h
 | n+1,a,b,k,h,ha,hb,hne=>by
  rw[ni]at h;split at h
  ·simp only[sJ]at h;exact⟨a,ha,hne,h⟩
  ·rename_i d;split at h
   ·cases h
   ·rename_i r e;exact Gd.share h hb (hb.rest _ e ha) d
theorem Gd.len{v:Nat}{F:MP}{l:List Nat}(h:Gd v F l)(p:l≠[])(W:F.dv 1)(O:¬Ew pr (F.lc v)):F.deg v<=(l.length:Int)-1:=by
 obtain⟨E,R,L,iR,e⟩:=h.d;have J:0<pr:=dM;rcases Int.lt_or_le ((l.length:Int) - 1) (F.deg v)with hlt|mR
 ·exfalso;have N:=IV (wS pr) E;obtain⟨X,iX,eX⟩:=IW J L;obtain⟨i,k⟩:∃g,g=Vy (λt=>!wS pr t) E:=⟨_,rfl⟩;have M:i.dv 1:=by rw[k];exact NN L
  rw[<-k,eX]at N;have e2:rG v l=F*i+c (pr:Rat)*(F*X+R):=by rw[e,N];grind
  have G:(F*X+R).dv 1:=Ep (jw W iX) iR;have o:F≠0:=λh0=>O (by rw[h0];exact vI pr);by_cases hz:i=0
  ·have j:=congrArg (λg=>cf (MP.co v (l.length-1) g).l e0) e2;simp only[oN,hz]at j;have Z:F*0+c (pr:Rat)*(F*X+R)=c (pr:Rat)*(F*X+R):=gR;rw[Z,co_mul_fr (qf _ _),rF]at j
   have i3:((F*X+R).co v (l.length-1)).dv 1:=λt b=>by have b:t∈((F*X+R).l.filter λu=>u.1.get v=((l.length - 1:Nat):Int)).map λu=>(u.1.put v 0,u.2):=b;obtain⟨u,hu,rfl⟩:=List.mem_map.1 b;exact G u (List.mem_filter.1 hu).1
   obtain⟨z,hz⟩:=gJ (GI i3 e0);rw[hz]at j;have b:=h.t p
   have hm:l.getD (l.length-1) 0<pr:=by rw[jD,gE (by have:=List.length_pos_iff.2 p;omega:l.length-1<l.length)];exact h.m _ (List.getElem_mem _)
   have e4:cf (c ((l.getD (l.length-1) 0:Nat):Rat)).l e0=((l.getD (l.length-1) 0:Nat):Rat):=by show cf (cK _) e0=_;rw[cK,if_neg (jG oM),bR,jL,if_pos rfl];exact Rat.add_zero _
   rw[e4,<-iN,<-iN,<-Rat.intCast_mul]at j;have h5:=Rat.intCast_inj.1 j;have h6:(0:Int)<((l.getD (l.length-1) 0:Nat):Int):=oM;rw[mW]at *;omega
  ·have j:=congrArg (λg=>MP.co v ((F.deg v).toNat+(i.deg v).toNat) g) e2;simp only[co_add]at j;rw[xm v o hz,co_mul_fr (qf _ _)]at j;have hd:=Ri v l;have:=deg_pos o v;rw[co_above oM]at j
   have i3:((F*X+R).co v ((F.deg v).toNat+(i.deg v).toNat)).dv 1:=λt b=>by have b:t∈((F*X+R).l.filter λu=>u.1.get v=(((F.deg v).toNat+(i.deg v).toNat:Nat):Int)).map λu=>(u.1.put v 0,u.2):=b;obtain⟨u,hu,rfl⟩:=List.mem_map.1 b;exact G u (List.mem_filter.1 hu).1
   have I:(F.lc v).dv 1:=λt b=>by have b:t∈(F.l.filter λu=>u.1.get v=((F.deg v).toNat:Int)).map λu=>(u.1.put v 0,u.2):=b;obtain⟨u,hu,rfl⟩:=List.mem_map.1 b;exact W u (List.mem_filter.1 hu).1
   have H:(i.lc v).dv 1:=λt b=>by have b:t∈(i.l.filter λu=>u.1.get v=((i.deg v).toNat:Int)).map λu=>(u.1.put v 0,u.2):=b;obtain⟨u,hu,rfl⟩:=List.mem_map.1 b;exact M u (List.mem_filter.1 hu).1
   have K:Ew pr (F.lc v*i.lc v):=⟨-((F*X+R).co v ((F.deg v).toNat+(i.deg v).toNat)),NH i3,gR⟩;rcases GK EE I H K with h3|h3
   ·exact O h3
   ·obtain⟨Y,iY,eY⟩:=h3;obtain⟨t,r,b⟩:=jR (lc_ne hz v);have q:t∈(i.lc v).l:=by rw[b];simp
    have n:=NL q;rw[eY,rF]at n;have s:t∈(i.l.filter λu=>u.1.get v=((i.deg v).toNat:Int)).map λu=>(u.1.put v 0,u.2):=q;obtain⟨u,hu,rfl⟩:=List.mem_map.1 s;have B:=(List.mem_filter.1 hu).1;rw[k]at B;have C:u∈E.l.filter (λt=>!wS pr t):=B;have D:=(List.mem_filter.1 C).2;obtain⟨y,hy⟩:=gJ (GI iY (u.1.put v 0));obtain⟨x,S⟩:=gJ (L u (List.mem_filter.1 C).1);simp only[wS,Bool.not_eq_true',decide_eq_false_iff_not,S]at D;have n:(pr:Rat)*cf Y.l (u.1.put v 0)=u.2:=n;rw[hy,S,<-iN,<-Rat.intCast_mul]at n;exact D (Int.emod_eq_zero_of_dvd ⟨y,(Rat.intCast_inj.1 n).symm⟩)
 ·exact mR
theorem UC(v t:Nat)(r:Rat):∀w,jo v t w (c r)=c r
 | 0=>rfl
 | w+1=>by simp only[jo];split<;>simp only[UC v t r w,zaH]
theorem I1(v t:Nat)(p:MP):∀w,w<=4->∀u,u<w->u≠v->(jo v t w p).fr u
 | 0,_,u,h,_=>by omega
 | w+1,hw,u,h,hne=>by
  simp only[jo];split
  ·rename_i e;exact I1 v t p w (by omega) u (by omega) hne
  ·rcases Nat.eq_or_lt_of_le (show u<=w by omega)with e|h1
   ·subst e;exact Pm _ _ _
   ·have b:(jo v t w p).deg u<=(0:Nat):=I1 v t p w oM u h1 hne;exact IX _ _ oM oM b
theorem Z5(v i:Nat)(hv:v<4)(p:MP):cf (p.co v i).l e0=cf p.l (e0.put v i):=by
 show Lf _ (aG p.l v i)=Lf _ _;rw[fC];refine iU λs _=>?_;by_cases h:s.1=e0.put v i
 ·rw[if_pos h,h,Ex.get_put,if_pos rfl,Ex.put_put,if_pos];have:=Ex.put_get e0 v;rw[CQ]at this;exact this
 ·rw[if_neg h];by_cases b:s.1.get v=(i:Int)
  ·rw[if_pos b,if_neg λd=>h (by rw[<-d,Ex.put_put,<-b,Ex.put_get])]
  ·rw[if_neg b]
theorem zaJ{p:MP}(h:p.lo 0):p=c (cf p.l e0):=by
 obtain⟨r,rfl⟩:=oH h
 congr 1
 show r=cf (cK r) e0;unfold cK;split
 ·rename_i h;rw[h];rfl
 ·rw[bR,jL,if_pos rfl];exact(Rat.add_zero _).symm
theorem WI(v t i:Nat)(hv:v<4)(p:MP):(jo v t 4 p).co v i=c (cf (jo v t 4 p).l (e0.put v i)):=by
 rw[<-Z5 v i hv];refine zaJ λw _ b=>?_;by_cases h:w=v
 ·subst h;exact co_fr _ _ _
 ·exact Xn b hv (I1 v t p 4 (nL _) w b h)
def Lt:List ai->Nat
 | []=>1
 | t::l=>t.2.den*Lt l
theorem GN:∀l,0<Lt l
 | []=>Nat.one_pos
 | t::l=>Nat.mul_pos t.2.den_pos (GN l)
theorem Lx:∀{l:List ai},∀t∈l,Dv (Lt l) t.2
 | s::l,t,h=>by
  rcases List.mem_cons.1 h with rfl|h
  ·exact(IG _).dvd (Nat.dvd_mul_right _ _)
  ·exact(Lx t h).dvd (Nat.dvd_mul_left _ _)
theorem EG{v t:Nat}:∀{l:List ai}{out x:List Nat},mg v t l out=some x->¬pr∣Lt l
 | [],_,_,_=>by decide
 | m::l,out,x,h=>by
  rw[mg]at h;split at h
  ·cases h
  ·rename_i d;have i:=EG h;intro hd;rcases ED EE hd with h1|h1
   ·apply d;have e:=zb (m.2.den:Int);have j:=vE (m.2.den:Int);obtain⟨a,ha⟩:=h1;obtain⟨b,hb⟩:=e;rw[mW]at ha;omega
   ·exact i h1
theorem wK{v t:Nat}:∀{l:List ai}{out x:List Nat},mg v t l out=some x->(∀y∈out,y<pr)->∀y∈x,y<pr
 | [],out,x,h,ho=>by simp only[mg,sJ]at h;subst h;exact ho
 | m::l,out,x,h,ho=>by
  rw[mg]at h;split at h
  ·cases h
  ·refine wK h λy b=>?_;rcases List.mem_or_eq_of_mem_set b with b|rfl
   ·exact ho y b
   ·exact Nat.mod_lt _ (by decide)
theorem bez{N:Nat}(h:¬pr∣N):∃M K:Int,(N:Int)*M=1+(pr:Int)*K:=by have i:0<N%pr:=Nat.pos_of_ne_zero λe=>h (Nat.dvd_of_mod_eq_zero e);have d:N%pr<pr:=Nat.mod_lt _ dM;have j:=NR i d;have b:=Cg.mod (mK (N%pr) (pr - 2)*(N%pr));rw[j]at b;have l:=Cg.mod N;have m:=(Cg.refl ((mK (N%pr) (pr - 2):Nat):Int)).mul l;rw[Int.natCast_mul]at b;obtain⟨k,n⟩:=(b.trans m).symm;exact⟨mK (N%pr) (pr - 2),k,by rw[mW];rw[Int.mul_comm];exact n⟩
structure Im (v:Nat) (d:MP) (F:MP) (x:List Nat):Prop where
 g:Gd v F x
 ne:x≠[]
 i:F.dv 1
 l:¬Ew pr (F.lc v)
 dg:F.deg v=d.deg v
theorem XA{D:Nat}{p:MP}(h:p.dv D)(v n:Nat):(p.co v n).dv D:=λt b=>by have b:t∈(p.l.filter λu=>u.1.get v=(n:Int)).map λu=>(u.1.put v 0,u.2):=b;obtain⟨u,hu,rfl⟩:=List.mem_map.1 b;exact h u (List.mem_filter.1 hu).1
theorem UD{v t:Nat}(hv:v<4){a d:MP}(ha:a≠0)(he:∀m∈a.l,∀w,m.1.get w<18446744073709551616){r:Rat}(hr:r≠0)(hp:pz (c r*d))(hd:d∣a){x:List Nat}(hx:qX a.l v t=some x)(hf:oJ (some x)=true) :
  Im v d (jo v t 4 (c r*d)) x:=by
 obtain⟨e,rfl⟩:=hd;have I:=EG hx;obtain⟨N,hN⟩:∃N,N=Lt (d*e).l:=⟨_,rfl⟩;rw[<-hN]at I;have a3:0<N:=by rw[hN];exact GN _
 have H:(d*e).dv N:=by rw[hN];exact λt ht=>Lx t ht
 obtain⟨D,hD⟩:∃D,D=c r*d:=⟨_,rfl⟩;rw[<-hD]at hp ⊢;obtain⟨E,hE⟩:∃E,E=c ((N:Rat)*r⁻¹)*e:=⟨_,rfl⟩
 have hA:c (N:Rat)*(d*e)=D*E:=by
  rw[hD,hE]
  have O:c r*c ((N:Rat)*r⁻¹)=c (N:Rat):=by rw[lC];congr 1;have:=Rat.mul_inv_cancel _ hr;grind
  rw[<-O];grind
 have iE:E.dv 1:=Ey (qO H) hp hA
 have o:c (N:Rat)*jo v t 4 (d*e)=jo v t 4 D*jo v t 4 E:=by rw[<-yY,<-hA,yY v t 4 (c (N:Rat)),UC]
 have d0:d≠0:=λh=>ha (by rw[h];grind);have G:e≠0:=λh=>ha (by rw[h];grind);have a9:=deg_pos ha v;have n:(List.replicate (aH (d*e).l v+1).toNat 0).length=((d*e).deg v+1).toNat:=by rw[List.length_replicate];rfl
 obtain⟨L,hL⟩:∃L,L=((d*e).deg v+1).toNat:=⟨_,rfl⟩;rw[<-hL]at n
 obtain⟨O,h2⟩:=Lm (N:=N) hv hx (d*e).v.nat he H λm hm=>by rw[n];have:=fw hm v;have h':(d*e).deg v=aH (d*e).l v:=rfl;have:=Ex.nat_get ((d*e).v.nat m hm) v;omega
 rw[n]at O h2
 have hz:∀i,c (N:Rat)*(jo v t 4 (d*e)).co v i=c ((cS N v t i (d*e).l:Int):Rat):=λi=>by rw[WI v t i hv,lC,WE v t hv,Xy H]
 have a7:∀i,L<=i->x.getD i 0=0:=λi q=>by rw[jD,gN oM];rfl
 have S:∀i,L<=i->(jo v t 4 (d*e)).co v i=0:=λi q=>co_above (by
  have:=vL v t hv 4 (nL _) (p:=d*e) (u:=v) (d:=((d*e).deg v).toNat) hv oM;omega)
 have X:∀y∈x,y<pr:=wK hx λy hy=>by rw[(List.mem_replicate.1 hy).2];decide
 have a6:x≠[]:=λh=>by rw[h]at O;simp at O;omega
 have b:x.getD (x.length-1) 0≠0:=of_decide_eq_true hf
 -- the congruence of polynomials
 have ⟨k,W⟩:∃k:Nat->Int,∀i,i<L->(N:Int)*x.getD i 0=cS N v t i (d*e).l+2147483647*k i :=
  ⟨λi=>((N:Int)*x.getD i 0-cS N v t i (d*e).l)/2147483647,λi q=>by
   obtain⟨k,W⟩:=h2 i q;rw[EF]at W
   simp only[W];omega⟩
 have J:c (N:Rat)*rG v x=c (N:Rat)*jo v t 4 (d*e)+c (pr:Rat)*dA (λi=>c (k i:Rat)*xk v i) L:=NS v λi=>by
  have hK:(dA (λi=>c (k i:Rat)*xk v i) L).co v i=if i<L then c (k i:Rat)else 0:=by
   rw[tZ];split
   ·rename_i hj;rw[qD _ hj λj _ q=>by rw[co_mul_fr (qf _ _),fU,if_neg (Ne.symm q)];grind];rw[co_mul_fr (qf _ _),fU,if_pos rfl];grind
   ·rename_i hj;rw[dS (g:=λ_=>0) λj hj=>by rw[co_mul_fr (qf _ _),fU,if_neg oM];grind,nK]
  rw[co_add,co_mul_fr (qf _ _),co_mul_fr (qf _ _),co_mul_fr (qf _ _),hK,oN];rcases Nat.lt_or_ge i L with q|q
  ·rw[if_pos q,hz,lC,lC,<-Xz];congr 1;have:=congrArg (λz:Int=>(z:Rat)) (W i q);simp only[Rat.intCast_add,Rat.intCast_mul,iN]at this;rw[this,mW];rfl
  ·rw[if_neg oM,S i q,a7 i q];have e1:c ((0:Nat):Rat)=0:=rfl;rw[e1];grind
 obtain⟨M,K,a2⟩:=bez I
 have a0:WH v (jo v t 4 D) x:=by
  refine⟨c (M:Rat)*jo v t 4 E,c (M:Rat)*dA (λi=>c (k i:Rat)*xk v i) L-c (K:Rat)*rG v x,jw (xJ 1 _) (za v t 4 iE),Er (jw (xJ 1 _) (yV λi _=>jw (xJ 1 _) (Pw v i))) (jw (xJ 1 _) (Uz v x)),?_⟩
  have Z:c (N:Rat)*c (M:Rat)=1+c (pr:Rat)*c (K:Rat):=by rw[lC,lC,<-DJ,<-Xz];congr 1;have:=congrArg (λz:Int=>(z:Rat)) a2;simp only[Rat.intCast_add,Rat.intCast_mul,iN]at this;exact this
  have h4:c (M:Rat)*(c (N:Rat)*rG v x)=c (M:Rat)*(jo v t 4 D*jo v t 4 E+c (pr:Rat)*dA (λi=>c (k i:Rat)*xk v i) L):=by rw[J,o]
  grind
 have s:¬Ew pr ((c (N:Rat)*jo v t 4 (d*e)).co v (L-1)):=λ⟨Y,iY,eY⟩=>by
  rw[co_mul_fr (qf _ _),hz]at eY;have Z:=congrArg (λg:MP=>cf g.l e0) eY
  have a4:∀r:Rat,cf (c r).l e0=r:=λr=>by
   show cf (cK r) e0=r;unfold cK;split
   ·rename_i h;rw[h];rfl
   ·rw[bR,jL,if_pos rfl];exact Rat.add_zero _
  simp only[rF,a4]at Z;obtain⟨y,hy⟩:=gJ (GI iY e0);rw[hy,<-iN,<-Rat.intCast_mul]at Z;have h4:=Rat.intCast_inj.1 Z;have h5:=W (L - 1) oM
  have h6:pr∣N*x.getD (L-1) 0:=by refine Int.ofNat_dvd.1 ⟨y+k (L-1),?_⟩;rw[Int.natCast_mul,h5,h4,mW,Int.mul_add];rfl
  rcases ED EE h6 with h7|h7
  ·exact I h7
  ·rw[O]at b;have h8:=Nat.le_of_dvd (Nat.pos_of_ne_zero b) h7
   have h9:x.getD (L-1) 0<pr:=by rw[jD,gE (by omega:L-1<x.length)];exact X _ (List.getElem_mem _)
   omega
 have B:c (N:Rat)*jo v t 4 (d*e)≠0:=λh=>s (by rw[h];exact vI pr)
 have a5:(L-1:Nat)<=(c (N:Rat)*jo v t 4 (d*e)).deg v:=by
  rcases Int.lt_or_le ((c (N:Rat)*jo v t 4 (d*e)).deg v) (L - 1:Nat)with h|h
  ·exact absurd (by rw[co_above h];exact vI pr) s
  ·exact h
 have C:jo v t 4 D≠0:=λh=>B (by rw[o,h];grind);have F:jo v t 4 E≠0:=λh=>B (by rw[o,h];grind);have aa:D.deg v=d.deg v:=by rw[hD,deg_mul (vJ hr) d0,uV (qf _ _) (vJ hr)];omega
 have ab:E.deg v=e.deg v:=by have R:c ((N:Rat)*r⁻¹)≠0:=vJ (jr (jG a3) λh=>by have:=Rat.mul_inv_cancel _ hr;rw[h]at this;grind);rw[hE,deg_mul R G,uV (qf _ _) R];omega
 have ag:=deg_mul d0 G v;have ac:=vL v t hv 4 (nL _) (p:=D) (u:=v) (d:=(D.deg v).toNat) hv oM;have ad:=vL v t hv 4 (nL _) (p:=E) (u:=v) (d:=(E.deg v).toNat) hv oM;have al:=deg_pos d0 v;have an:=deg_pos G v;rw[o,deg_mul C F]at a5;have a1:(jo v t 4 D).deg v=d.deg v:=oM;refine⟨⟨a0,λ_=>b,X⟩,a6,za v t 4 hp.1,λa8=>s ?_,a1⟩;have:L-1=((jo v t 4 D).deg v).toNat+((jo v t 4 E).deg v).toNat:=oM;rw[o,this,xm v C F];exact Pi a8 (XA (za v t 4 iE) _ _)
theorem Rj{v t:Nat}(hv:v<4){a b d:MP}(ha:a≠0)(hb:b≠0)(o:∀m∈a.l,∀w,m.1.get w<18446744073709551616)(p:∀m∈b.l,∀w,m.1.get w<18446744073709551616)(h:d∣a)(k:d∣b){x y:List Nat}
  (E:qX a.l v t=some x) (q:oJ (some x)=true) (F:qX b.l v t=some y) (s:oJ (some y)=true) {n:Nat} (j:rV x y=some n):d.deg v+1<=n:=by
 obtain⟨r,z,hp⟩:=Pj (dvd_ne ha h);have e:=UD hv ha o z hp h E q;have u:=UD hv hb p z hp k F s
 have key:∃l,Gd v (jo v t 4 (c r*d)) l/\l≠[]/\l.length=n:=by
  unfold rV at j;split at j
  ·exact Gd.share j u.g e.g u.ne
  ·exact Gd.share j e.g u.g e.ne
 obtain⟨l,B,C,D⟩:=key;have:=B.len C e.i e.l;rw[e.dg,D]at this;omega
theorem vM{v:Nat}(hv:v<4){a b d:MP}(ha:a≠0)(hb:b≠0)(j:∀m∈a.l,∀w,m.1.get w<18446744073709551616)(o:∀m∈b.l,∀w,m.1.get w<18446744073709551616)(e:d∣a)(i:d∣b) :
  ∀{l:List Nat}{m:Int},lm a.l b.l v l=some m->d.deg v<=m
 | [],m,h=>by simp only[lm,sJ]at h;have r:=dvd_deg ha e v;have s:=dvd_deg hb i v;have e1:a.deg v=aH a.l v:=rfl;have e2:b.deg v=aH b.l v:=rfl;omega
 | k::l,m,h=>by
  rw[lm]at h;split at h
  ·rename_i x y p q;split at h
   ·rename_i hf;rw[Bool.and_eq_true]at hf
    cases hs:rV x y with
    | none=>rw[hs]at h;cases h
    | some n =>
     rw[hs]at h;have h:some ((n:Int)-1)=some m:=h;have h:=Option.some.inj h;have:=Rj hv ha hb j o e i p hf.1 q hf.2 hs;omega
   ·exact vM hv ha hb j o e i h
  ·exact vM hv ha hb j o e i h
theorem LF{b:List Nat}(hb:b≠[])(s:Tp b)(hm:∀x∈b,x<pr):∀(n:Nat)(r:List Nat),r.length<n->(∀x∈r,x<pr)->∃x,sP b (mK (b.getD (b.length-1) 0) (pr-2)) n r=some x/\x.length<b.length
 | 0,_,h,_=>by omega
 | n+1,r,h,hr=>by
  rw[sP];have E:=List.length_pos_iff.2 hb;split
  ·rename_i mR;obtain⟨f,hf⟩:∃f,f=r.getD (r.length - 1) 0*mK (b.getD (b.length - 1) 0) (pr - 2)%pr:=⟨_,rfl⟩;rw[<-hf]
   have F:(strip (ja b r f (r.length-b.length) b.length)).length<r.length:=by
    have p:=UB (l:=ja b r f (r.length-b.length) b.length) (λe=>by have:=sW b r f (r.length-b.length) b.length;rw[e]at this;simp at this;omega) (by
     rw[sW,Ar b.length oM,if_pos oM,(oM:r.length - 1 - (r.length - b.length)=b.length - 1)];have d:=s hb;obtain⟨y,u⟩:∃y,y=b.getD (b.length - 1) 0:=⟨_,rfl⟩;have o:y<pr:=by rw[u,jD,gE (by omega:b.length - 1<b.length)];exact hm _ (List.getElem_mem _)
     rw[<-u]at d hf ⊢;obtain⟨z,hz⟩:∃z,z=r.getD (r.length - 1) 0:=⟨_,rfl⟩;rw[<-hz]at hf ⊢;have q:=NR (Nat.pos_of_ne_zero d) o;obtain⟨i,m⟩:∃i,i=mK y (pr - 2):=⟨_,rfl⟩;rw[<-m]at q hf;have c1:=Cg.mod (z*i);rw[<-hf]at c1;have c2:=Cg.mod (i*y);rw[q]at c2
     have D:Cg ((z+(pr-y)*f:Nat):Int) 0:=by
      rw[Int.natCast_add,Int.natCast_mul,Int.ofNat_sub oM];obtain⟨B,j⟩:=c1;obtain⟨C,k⟩:=c2;rw[Int.natCast_mul]at j k;refine⟨f - y*B+z*C,?_⟩;rw[mW];have e1:(y:Int)*f=y*(z*i+2147483647*B):=by rw[j]
      have e2:(z:Int)=z*(i*y+2147483647*C):=by rw[<-k];omega
      grind
     exact Nat.mod_eq_zero_of_dvd (Int.ofNat_dvd.1 (by rw[mW];exact D.zero)))
    rw[sW]at p;exact p
   exact LF hb s hm n _ oM (Aq (wJ hr _))
  ·exact⟨r,rfl,oM⟩
theorem Gd.tp_rest{b:List Nat}(inv:Nat):∀{n:Nat}{r x:List Nat},sP b inv n r=some x->Tp r->(∀y∈r,y<pr)->Tp x/\∀y∈x,y<pr
 | 0,_,_,h,_,_=>by cases h
 | n+1,r,x,h,hr,hm=>by
  rw[sP]at h;split at h
  ·exact Gd.tp_rest inv h (ze _) (Aq (wJ hm _))
  ·simp only[sJ]at h;subst h;exact⟨hr,hm⟩
theorem xK:∀(n:Nat)(a b:List Nat),b.length<n->a.length<fuel->b.length<fuel->Tp a->Tp b->(∀x∈a,x<pr)->(∀x∈b,x<pr)->∃k,ni n a b=some k
 | 0,_,_,h,_,_,_,_,_,_=>by omega
 | n+1,a,b,h,ha,hb,ta,tb,ma,mb=>by
  rw[ni];split
  ·exact⟨_,rfl⟩
  ·rename_i e;obtain⟨x,i,j⟩:=LF e tb mb fuel a ha ma;have d:=Gd.tp_rest _ i ta ma;rw[i];exact xK n b x oM hb oM tb d.1 mb d.2
theorem Px{a:List ai}{v t:Nat}{x:List Nat}(h:qX a v t=some x):x.length=(aH a v+1).toNat:=by
 have key:∀{l:List ai}{out x:List Nat},mg v t l out=some x->x.length=out.length:=by
  intro l
  induction l with
  | nil=>intro out x h;simp only[mg,sJ]at h;subst h;rfl
  | cons m l b =>
   intro out x h;rw[mg]at h;split at h
   ·cases h
   ·rw[b h,List.length_set]
 rw[key h,List.length_replicate]
theorem xN{a b:List ai}{v:Nat}(ha:aH a v+1<fuel)(hb:aH b v+1<fuel):∀l,∃m,lm a b v l=some m
 | []=>⟨_,rfl⟩
 | k::l=>by
  rw[lm];split
  ·rename_i x y e d;split
   ·rename_i hf;rw[Bool.and_eq_true]at hf;have q:=Px e;have r:=Px d;have j:Tp x:=λ_=>of_decide_eq_true hf.1;have ty:Tp y:=λ_=>of_decide_eq_true hf.2;have h:∀z∈x,z<pr:=wK e λy d=>by rw[(List.mem_replicate.1 d).2];decide
    have i:∀z∈y,z<pr:=wK d λy d=>by rw[(List.mem_replicate.1 d).2];decide
    have o:0<fuel:=dM
    have key:∃n,rV x y=some n:=by
     unfold rV;split
     ·exact xK fuel y x oM oM oM ty j i h
     ·exact xK fuel x y oM oM oM j ty h i
    obtain⟨n,p⟩:=key;rw[p];exact⟨_,rfl⟩
   ·exact xN ha hb l
  ·exact xN ha hb l
end Q
end
section
namespace Q
open Go Go.Proofs.YtopclbeomcggiaaGreat
def UE (x:Pt) (v:Nat) (L:List (List ai)):Rat:=bF (λi=>ev x (L.getD i [])*x.get v^i) L.length
theorem EH(c:Rat)(f:Nat->Rat):∀n,bF (λi=>c*f i) n=c*bF f n
 | 0=>by simp[bF]
 | n+1=>by simp only[bF,EH c f n];grind
theorem EI(a:Nat)(g:Nat->Rat):∀n,bF (λi=>if a<=i then g (i-a)else 0) (a+n)=bF g n
 | 0=>by
  have:∀k,k<=a->bF (λi=>if a<=i then g (i-a)else 0) k=0:=by
   intro k
   induction k with
   | zero=>intro _;rfl
   | succ k b=>intro h;simp only[bF];rw[b oM,if_neg oM];grind
  rw[Nat.add_zero,this a (nL _)];rfl
 | n+1=>by rw[<-Nat.add_assoc];simp only[bF];rw[EI a g n,if_pos oM,Nat.add_sub_cancel_left]
def BS (L:List (List ai)):Prop:=∀c∈L,aY c
theorem BS.get{L:List (List ai)}(h:BS L)(i:Nat):aY (L.getD i []):=by
 rw[jD]
 cases hi:L[i]? with
 | none=>exact aY.nil
 | some c=>exact h c (List.mem_of_getElem? hi)
theorem NT{D R:List (List ai)}{i:Nat}(h:i<R.length-1):(gm D R).getD i []=if R.length-1-(D.length-1)<=i then dL (aO (R.getD i []) (D.getD (D.length-1) [])) (aO (R.getD (R.length-1) []) (D.getD (i-(R.length-1-(D.length-1))) []))else aO (R.getD i []) (D.getD (D.length-1) []):=by rw[jD];simp[gm,h]
theorem EJ(D R:List (List ai)):BS (gm D R):=λc hc=>by
 simp only[gm,List.mem_map]at hc;obtain⟨i,-,rfl⟩:=hc;split
 ·exact aY.sub _ _
 ·exact aY.mul _ _
theorem UF(x:Pt)(v:Nat){D R:List (List ai)}(d:BS D)(e:BS R)(o:1<=D.length)(p:D.length-1<R.length) :
  UE x v (gm D R)=ev x (D.getD (D.length-1) [])*UE x v R-ev x (R.getD (R.length-1) [])*x.get v^(R.length-1-(D.length-1))*UE x v D:=by
 obtain⟨n,l⟩:∃n,D.length=n+1:=⟨D.length - 1,oM⟩;obtain⟨a,ha⟩:∃a,R.length=a+n+1:=⟨R.length - 1 - n,oM⟩;have e1:R.length - 1=a+n:=oM;have e2:D.length - 1=n:=oM;have k:a+n - n=a:=oM;unfold UE;rw[iZ,e1,e2,k]
 have m:bF (λi=>ev x ((gm D R).getD i [])*x.get v^i) (a+n)=bF (λi=>ev x (D.getD n [])*(ev x (R.getD i [])*x.get v^i)+(if a<=i then(λj=>(-(ev x (R.getD (a+n) [])*x.get v^a))*(ev x (D.getD j [])*x.get v^j)) (i-a)else 0)) (a+n):=by
  refine dO λi q=>?_;rw[NT oM,e1,e2,k];by_cases b:a<=i
  ·rw[if_pos b,if_pos b,ev_sub x (aY.mul _ _).nat (aY.mul _ _),ev_mul x (e.get _).nat (d.get _).nat,ev_mul x (e.get _).nat (d.get _).nat];have:x.get v^i=x.get v^a*x.get v^(i-a):=by rw[<-ow];congr 1;omega
   simp only;rw[this];grind
  ·rw[if_neg b,if_neg b,ev_mul x (e.get _).nat (d.get _).nat];grind
 have h:=EI a (λj=>(-(ev x (R.getD (a+n) [])*x.get v^a))*(ev x (D.getD j [])*x.get v^j)) n;rw[m,yf,h,EH,EH,ha,l];simp only[bF];rw[ow];grind
def Bw (v:Nat) (D:List (List ai)):Nat->List (List ai)->List ai
 | 0,_=>[]
 | f+1,R=>if D.length-1<R.length then mP (aO (aO (R.getD (R.length-1) []) (nC (Jz v) (R.length-1-(D.length-1)))) (nC (D.getD (D.length-1) []) (R.length-1-(D.length-1)))) (Bw v D f (gm D R))else []
theorem GQ(v:Nat)(D:List (List ai)):∀f R,aY (Bw v D f R)
 | 0,_=>aY.nil
 | f+1,R=>by unfold Bw;split;exact aY.add _ _;exact aY.nil
theorem Au(D:List (List ai)):∀f R,BS R->BS (gL D f R)
 | 0,_,h=>h
 | f+1,R,h=>by unfold gL;split;exact Au D f _ (EJ D R);exact h
theorem Py(x:Pt)(v:Nat){D:List (List ai)}(d:BS D)(e:1<=D.length):∀f R,BS R->R.length<=D.length-1+f ->
  ev x (D.getD (D.length-1) [])^(R.length-(D.length-1))*UE x v R-UE x v (gL D f R)=ev x (Bw v D f R)*UE x v D
 | 0,R,_,h=>by have:R.length-(D.length-1)=0:=oM;simp only[gL,Bw];rw[this,Rat.pow_zero,dJ];grind
 | f+1,R,hR,h=>by
  unfold gL Bw;by_cases b:D.length-1<R.length
  ·rw[if_pos b,if_pos b];have i:=Py x v d e f (gm D R) (EJ D R) (by rw[iZ];omega);have j:=UF x v d hR e b;rw[iZ]at i;have e1:R.length-(D.length-1)=(R.length-1-(D.length-1))+1:=oM;rw[ev_add x (aY.mul _ _).nat (GQ v D f _).nat,ev_mul x (aY.mul _ _).nat (aY.pow _ _).nat,ev_mul x (hR.get _).nat (aY.pow _ _).nat,ev_pow x (d.get _).nat,ev_pow x (aY.var v).nat,XP,e1,Rat.pow_succ];grind
  ·rw[if_neg b,if_neg b];have:R.length-(D.length-1)=0:=oM;rw[this,Rat.pow_zero,dJ];grind
end Q
end
section
namespace Q
open MP Go.Proofs.YtopclbeomcggiaaGreat
theorem Av(D:List (List ai)):∀(f:Nat)(R:List (List ai)),R.length<=D.length-1+f->(gL D f R).length<=max (D.length-1) 0
 | 0,R,h=>by simp only[gL];omega
 | f+1,R,h=>by
  unfold gL;by_cases b:D.length-1<R.length
  ·rw[if_pos b];exact Av D f _ (by rw[iZ];omega)
  ·rw[if_neg b];omega
def WJ (v:Nat) (L:List (List ai)):Prop:=∀c∈L,∀t∈c,t.1.get v=0
theorem WJ.get{v:Nat}{L:List (List ai)}(h:WJ v L)(i:Nat):∀t∈L.getD i [],t.1.get v=0:=by
 rw[jD]
 cases hi:L[i]? with
 | none=>intro t b;cases b
 | some c=>exact h c (List.mem_of_getElem? hi)
theorem I4{v:Nat}{p q:List ai}(hp:∀t∈p,t.1.get v=0)(hq:∀t∈q,t.1.get v=0):∀t∈aO p q,t.1.get v=0 :=
 gY (P:=λe=>e.get v=0) λt d=>by obtain⟨a,ha,b,hb,rfl⟩:=kV d;show(a.1.add b.1).get v=0;rw[Ex.get_add,hp a ha,hq b hb];rfl
theorem WK{v:Nat}{p q:List ai}(hp:∀t∈p,t.1.get v=0)(hq:∀t∈q,t.1.get v=0):∀t∈dL p q,t.1.get v=0 :=
 gY (P:=λe=>e.get v=0) λt d=>by
  rcases List.mem_append.1 d with h|h
  ·exact hp t h
  ·obtain⟨s,b,rfl⟩:=Am h;exact hq s b
theorem Rl{v:Nat}{D R:List (List ai)}(b:WJ v D)(d:WJ v R):WJ v (gm D R):=λc hc=>by
 simp only[gm,List.mem_map]at hc;obtain⟨i,-,rfl⟩:=hc;split
 ·exact WK (I4 (d.get _) (b.get _)) (I4 (d.get _) (b.get _))
 ·exact I4 (d.get _) (b.get _)
theorem EK{v:Nat}{D:List (List ai)}(b:WJ v D):∀(f:Nat)(R:List (List ai)),WJ v R->WJ v (gL D f R)
 | 0,_,h=>h
 | f+1,R,h=>by unfold gL;split;exact EK b f _ (Rl b h);exact h
theorem GR(p:List ai)(v:Nat):WJ v (aB p v):=λc hc t b=>by obtain⟨n,rfl⟩:=gQ hc;obtain⟨u,_,rfl⟩:=List.mem_map.1 b;exact Ex.get_put _ _ _
theorem xO{p:List ai}(h:aY p)(v:Nat):BS (aB p v):=λc hc=>by obtain⟨n,rfl⟩:=gQ hc;exact h.coeff v n
def nu (v:Nat) (a b:MP):MP:=⟨uI (gL (aB b.l v) (aB a.l v).length (aB a.l v)) v,fK _⟩
theorem UG{a b:MP}{v:Nat}{r:List ai}(h:Vx a.l b.l v=some r):r=(nu v a b).l/\b≠0:=by
 unfold Vx at h;simp only at h;split at h
 ·rename_i hc;exact⟨(kF h).1,λe=>hc.1 (by rw[e];rfl)⟩
 ·cases h
theorem NU(x:Pt)(v:Nat){L:List (List ai)}(h:BS L):ev x (uI L v)=UE x v L:=H7 x v λc hc=>(h c hc).nat
theorem Aw{a b:MP}(hb:b≠0)(v:Nat):∃(q:MP)(s:Nat),(b.lc v)^s*a=q*b+nu v a b/\(nu v a b).deg v<=b.deg v-1:=by
 have k:=xO b.v v;have j:=xO a.v v;have o:=deg_pos hb v;have d:(aB b.l v).length=(b.deg v).toNat+1:=by rw[bv];have e:aH b.l v=b.deg v:=rfl;omega
 have mR:(aB a.l v).length<=(aB b.l v).length-1+(aB a.l v).length:=oM;refine⟨⟨Bw v (aB b.l v) (aB a.l v).length (aB a.l v),GQ _ _ _ _⟩,(aB a.l v).length-((aB b.l v).length-1),MP.ext' λx=>?_,?_⟩
 ·have h:=Py x v k oM (aB a.l v).length (aB a.l v) j mR;have ea:UE x v (aB a.l v)=ev x a.l:=by rw[<-NU x v j,AY a.v]
  have eb:UE x v (aB b.l v)=ev x b.l:=by rw[<-NU x v k,AY b.v]
  have m:UE x v (gL (aB b.l v) (aB a.l v).length (aB a.l v))=MP.ev x (nu v a b):=(NU x v (Au _ _ _ j)).symm
  have el:ev x ((aB b.l v).getD ((aB b.l v).length-1) [])=MP.ev x (b.lc v):=by rw[d,Nat.add_sub_cancel,jI (by have e:aH b.l v=b.deg v:=rfl;omega)];rfl
  rw[ea,eb,m,el]at h;rw[MP.ev_add,MP.ev_mul,MP.ev_mul,MP.ev_pow];show _*ev x a.l=ev x (Bw v (aB b.l v) _ _)*ev x b.l+_;grind
 ·obtain⟨L,hL⟩:∃L,L=gL (aB b.l v) (aB a.l v).length (aB a.l v):=⟨_,rfl⟩;have u:=Av (aB b.l v) (aB a.l v).length (aB a.l v) mR;have hf:=EK (GR b.l v) (aB a.l v).length (aB a.l v) (GR a.l v);have hv:=Au (aB b.l v) (aB a.l v).length (aB a.l v) j
  have e:nu v a b=dA (λi=>⟨(gL (aB b.l v) (aB a.l v).length (aB a.l v)).getD i [],hv.get i⟩*xk v i) (gL (aB b.l v) (aB a.l v).length (aB a.l v)).length:=MP.ext' λx=>by rw[H9];show ev x (uI _ v)=_;rw[H7 x v λc hc=>(hv c hc).nat];refine dO λi _=>?_;rw[MP.ev_mul,ev_xk];rfl
  rw[e];refine qE oM λi r=>?_;have n:(⟨(gL (aB b.l v) (aB a.l v).length (aB a.l v)).getD i [],hv.get i⟩:MP).fr v:=Si (hf.get i);have p:=di v _ (xk v i) n (Int.le_of_eq (deg_xk v i)) oM;omega
theorem Ay{b g:List ai}{gt:ai}(hb:aY b)(hg:b=gt::g):∀{n:Nat}{a out res:List ai},aY a->dI out->sO b gt n a out=some (some res)->dI res/\∀x,ev x res*ev x b=ev x out*ev x b+ev x a
 | 0,_,_,_,_,_,h=>by simp[sO]at h
 | n+1,[],out,res,_,ho,h=>by simp only[sO,sJ]at h;subst h;exact⟨ho,λx=>by rw[dJ];grind⟩
 | n+1,m::a,out,res,ha,ho,h=>by
  rw[sO]at h;split at h
  ·split at h
   ·rename_i i;split at h
    ·have hq:dI [ik m gt]:=λt j=>by rw[List.mem_singleton.1 j];exact i
     obtain⟨d,e⟩:=Ay hb hg (aY.sub _ _) (ho.append hq) h;refine⟨d,λx=>?_⟩;rw[e x,qj,Q.ev_sub x ha.nat (aY.mul _ _),Q.ev_mul x hb.nat hq];grind
    ·cases h
   ·cases h
  ·cases h
theorem GU{b g:List ai}{gt:ai}(hb:aY b)(hg:b=gt::g):∀{n:Nat}{a out:List ai},aY a->sO b gt n a out=some none->∀q,aY q->a≠aO q b
 | 0,_,_,_,h=>by simp[sO]at h
 | n+1,[],out,_,h=>by simp[sO]at h
 | n+1,m::a,out,ha,h=>by
  intro q hq e;subst hg;have hz:=(hb.2 gt sM).1
  cases q with
  | nil=>cases e
  | cons x s =>
   have l:=hq.2 x sM;obtain⟨o,p⟩:=Co hq hb;obtain⟨a',d⟩:=Cm (aY.mul _ _) (jr l.1 hz) o p;rw[d]at e;have em:m=(x.1.add gt.1,x.2*gt.2):=(List.cons.inj e).1;have i:ik m gt=x:=by rw[em];exact Em hz
   have k:(m.1.sub gt.1).nat=true:=by
    have:(ik m gt).1=x.1:=by rw[i]
    show(ik m gt).1.nat=true;rw[this];exact l.2
   rw[sO]at h;split at h
   ·split at h
    ·have j:=Eo hq hb aY.nil;have e0:mP (aO (x::s) (gt::g)) []=aO (x::s) (gt::g):=lK (aY.add _ _) (aY.mul _ _) λy=>by rw[Q.ev_add y (aY.mul _ _).nat dI.nil,dJ];grind
     have e1:mP (aO s (gt::g)) []=aO s (gt::g):=lK (aY.add _ _) (aY.mul _ _) λy=>by rw[Q.ev_add y (aY.mul _ _).nat dI.nil,dJ];grind
     rw[e0,e1]at j;refine GU hb rfl (aY.sub _ _) h s hq.tail ?_;rw[i,e,<-d,j]
    ·cases h
   ·cases h
theorem EL{a b q:MP}{r:List ai}(hb:b≠0)(e:a=q*b)(h:fQ a.l b.l=some r):r=q.l:=by
 obtain⟨t,l,d⟩:=jR hb;unfold fQ yO at h;rw[d]at h;simp only at h;split at h
 ·rename_i o k
  cases o with
  | none=>exact absurd (show a.l=aO q.l (t::l) by rw[<-d];exact congrArg MP.l e) (GU (d▸b.v) rfl a.v k q.l q.v)
  | some j =>
   obtain⟨s,m⟩:=Ay (d▸b.v) rfl a.v dI.nil k;obtain⟨i,n⟩:=kF h;have i:r=j:=i;subst i;have hv:aY r:=n.val
   have:(⟨r,hv⟩:MP)*b=q*b:=MP.ext' λx=>by rw[MP.ev_mul,<-e];have:=m x;rw[dJ,<-d]at this;show ev x r*ev x b.l=ev x a.l;grind
   have p:b*(⟨r,hv⟩:MP)=b*q:=gR;exact congrArg MP.l (MP.cancel hb p)
 ·cases h
def hd (a:MP):Rat:=match a.l with
 | []=>0
 | t::_=>t.2
def nrm (a:MP):MP:=c (1/hd a)*a
theorem Bz{a:MP}(h:a≠0):hd a≠0:=by obtain⟨t,l,e⟩:=jR h;have:=(a.v.2 t (by rw[e];simp)).1;unfold hd;rw[e];exact this
theorem uw{r:Rat}(b:r≠0)(a:MP):hd (c r*a)=hd a*r:=by
 unfold hd;rw[wH];show(match bY a.l r with|[]=>0|t::_=>t.2)=_;unfold bY;rw[if_neg b]
 cases a.l with
 | nil=>simp
 | cons t l=>rfl
theorem xP{a:MP}(h:a≠0):hd (nrm a)=1:=by
 have b:=Bz h
 have d:(1:Rat)/hd a≠0:=λe=>by have:=Rat.div_mul_cancel (a:=1) b;rw[e]at this;grind
 rw[nrm,uw d];have:=Rat.div_mul_cancel (a:=1) b;grind
theorem nA:nrm 0=0:=by rw[nrm];grind
theorem iD{a:MP}(h:a≠0):nrm a∣a/\a∣nrm a:=by
 have b:=Bz h;refine⟨⟨c (hd a),?_⟩,⟨c (1/hd a),by rw[nrm];grind⟩⟩;have d:c (1/hd a)*c (hd a)=1:=by rw[lC,Rat.div_mul_cancel b];rfl
 rw[nrm];grind
theorem zf{a:MP}{r:List ai}(h:kG a.l=some r):r=(nrm a).l:=by
 cases e:a.l with
 | nil =>
  rw[e]at h;simp only[kG,sJ]at h;rw[zero_iff.2 e,nA,<-h];rfl
 | cons t l =>
  rw[e]at h;simp only[kG]at h;rw[(kF h).1,nrm,wH];have:hd a=t.2:=by unfold hd;rw[e]
  rw[this];show _=bY a.l (1/t.2);rw[e]
theorem EM{a b:MP}(ha:a≠0)(d:a∣b)(h:b∣a)(n1:hd a=1)(n2:hd b=1):a=b:=by obtain⟨u,rfl⟩:=d;have hu:=unit_cancel ha h;obtain⟨r,rfl⟩:=oH (Tc hu);have i:r≠0:=λe=>tY hu (by rw[e];rfl);have e:a*c r=c r*a:=gR;rw[e,uw i,n1]at n2;have:r=1:=gR;rw[this,DJ];grind
end Q
end
section
namespace Go.Proofs.YtopclbeomcggiaaGreat
open Go.RowKit Q Go.WideMaps Go.Maps
theorem UH(v1 v2:Value)(p q:Rat)(w:World)(h1:bX w v1 p)(h2:bX w v2 q)(k1:Rs p)(k2:Rs q)(hz:q≠0) :
  Calls Tryz.prog 71 #[v1,v2] w (Ch w (p/q) 0):=by
 rw[<-Dy];obtain⟨s1,a1,l1,c1,s2,a2,l2,c2,rfl,i1,i2⟩:=h1;obtain⟨s3,a3,l3,c3,s4,a4,l4,c4,rfl,i3,i4⟩:=h2
 have l:(p.den:Int)*q.num≠0:=by
  intro h;rcases Int.mul_eq_zero.1 h with h|h
  ·have:=p.den_nz;omega
  ·exact hz (Rat.num_eq_zero.1 h)
 have k:aJ ((p.den:Int)*q.num).natAbs<=CT:=by have h1:=gU p.den q.num.natAbs;have h2:=k1.1;have h3:=k2.2;rw[Int.natAbs_mul,Int.natAbs_natCast];have q2:=nD;omega
 have sb:aJ (p.num*(q.den:Int)).natAbs<=CT:=by have h1:=gU p.num.natAbs q.den;have h2:=k1.2;have h3:=k2.1;rw[Int.natAbs_mul,Int.natAbs_natCast];have q2:=nD;omega
 go_enter Tryz.func71,Tryz.ntmps71
 go_upto_region 1 with (fail)
 refine uF λW hb0 B1 B2 B3 n=>?_;replace i1:=i1.on hb0;replace i2:=i2.on hb0;replace i3:=i3.on hb0;replace i4:=i4.on hb0;refine aD mixed (none) (0) (eQ.none) [.eq (.pointer (some ⟨w.heap.size,0,none⟩)),.eq (.agg #[.bool s1,.slice a1 l1 c1]),.eq (.pointer (some ⟨w.heap.size+1,2,none⟩)),.eq (.agg #[.bool s4,.slice a4 l4 c4]),.int dM ((p.num*(q.den:Int))),.eq (.pointer (some ⟨w.heap.size,2,none⟩)),.eq (.agg #[.bool s2,.slice a2 l2 c2]),.eq (.pointer (some ⟨w.heap.size+1,0,none⟩)),.eq (.agg #[.bool s3,.slice a3 l3 c3]),.int dM (((p.den:Int)*q.num)),.ratE dM (Rat.divInt (p.num*(q.den:Int)) ((p.den:Int)*q.num)) 0,.rat dM (Rat.divInt (p.num*(q.den:Int)) ((p.den:Int)*q.num)),.eq (.int .i64 0)] [6,7,8,9,10,11,12,13,14,15,16,17,18] rfl rfl rfl rfl ⟨λA _ hA _ _ _=>have h2:A.eval (.tmp 2)=.pointer (some ⟨w.heap.size,0,none⟩):=hA 2 rfl;pZ rfl,λA _ _ hL _ he=>have hb:=hL.below;have h6:=eT 6 (he.1 rfl);have c0:=((B1).on hb).at1 0 _ rfl;have c1:=((B1).on hb).at1 1 _ rfl;pZ rfl,λA _ hA _ _ _=>have h3:A.eval (.tmp 3)=.pointer (some ⟨w.heap.size+1,0,none⟩):=hA 3 rfl;pZ rfl,λA _ _ hL _ he=>have hb:=hL.below;have h8:=eT 8 (he.1 rfl);have c0:=((B2).on hb).at1 2 _ rfl;have c1:=((B2).on hb).at1 3 _ rfl;pZ rfl,λA _ _ _ hS he=>have hb:=hS rfl;have h7:=eT 7 (he.1 rfl);have h9:=eT 9 (he.2.1 rfl);have hf0:=eF A 105;cP (f:=105) (args:=#[.agg #[.bool s1,.slice a1 l1 c1],.agg #[.bool s4,.slice a4 l4 c4]]) (mf _ _ _ _ _ _ _ (i1.on hb) (i4.on hb) (Ms k1.num) (Ms k2.den)),λA _ hA _ _ _=>have h2:A.eval (.tmp 2)=.pointer (some ⟨w.heap.size,0,none⟩):=hA 2 rfl;pZ rfl,λA _ _ hL _ he=>have hb:=hL.below;have h11:=eT 11 (he.1 rfl);have c0:=((B1).on hb).at1 2 _ rfl;have c1:=((B1).on hb).at1 3 _ rfl;pZ rfl,λA _ hA _ _ _=>have h3:A.eval (.tmp 3)=.pointer (some ⟨w.heap.size+1,0,none⟩):=hA 3 rfl;pZ rfl,λA _ _ hL _ he=>have hb:=hL.below;have h13:=eT 13 (he.1 rfl);have c0:=((B2).on hb).at1 0 _ rfl;have c1:=((B2).on hb).at1 1 _ rfl;pZ rfl,λA _ _ _ hS he=>have hb:=hS rfl;have h12:=eT 12 (he.1 rfl);have h14:=eT 14 (he.2.1 rfl);have hf0:=eF A 105;cP (f:=105) (args:=#[.agg #[.bool s2,.slice a2 l2 c2],.agg #[.bool s3,.slice a3 l3 c3]]) (mf _ _ _ _ _ _ _ (i2.on hb) (i3.on hb) (Ms k1.den) (Ms k2.num)),?_,?_,?_,trivial⟩ ?_
 ·intro A w1 hA hL hS he;have hb:=hS rfl;obtain⟨v10,h10,f10⟩:=fT 10 (he.1 rfl);obtain⟨v15,h15,f15⟩:=fT 15 (he.2.1 rfl);have hf0:=eF A 104;refine af rfl ?_;refine dR (f:=104) (args:=#[v10,v15]) rfl rfl ?_ ?_
  ·exact gZ
  ·obtain⟨n10,m10,rfl,i10⟩:=f10;obtain⟨n15,m15,rfl,i15⟩:=f15;refine(O1 _ _ _ _ _ _ _ i10 i15 sb k l).mono ?_;rintro e w' ⟨x,rfl,m,b⟩;exact⟨_,rfl,b,x,rfl,m⟩
 ·intro A w1 hA hL hS he;obtain⟨v16,h16,f16⟩:=fT 16 (he.1 rfl);refine af rfl ?_;obtain⟨x,rfl,j⟩:=f16;refine gT (c:=x) rfl rfl (Below.refl _ _) j ?_;exact gZ
 ·intro A w1 hA hL hS he;obtain⟨v16,h16,f16⟩:=fT 16 (he.1 rfl);refine af rfl ?_;obtain⟨x,rfl,j⟩:=f16;exact aC rfl rfl gZ
 ·intro w4 hL4;have hb4:=hL4.below;simp only[aQ,ae.eq,ae.int,ae.rat,ae.ratE,ae.of,lZ];rintro _ - _ - _ - v17 h17;obtain⟨t1,b1,g1,d1,t2,b2,g2,d2,rfl,u1,u2⟩:=h17;go_frame;have E3:=B3.on hb4;have d:=hb0.trans (hb4.mono hb0.size)
  go_wp2_with (refine aA rfl _ (.tmp 4) (.tmp 17) rfl _ _ _ _ rfl rfl E3 rfl dV eB ?_;intro w5 R i)
  exact bodyPost_ret (nY rfl _ _ _ Tryz.underlying41 rfl rfl R dV) rfl ⟨_,rfl,bX.stored ⟨t1,b1,g1,d1,t2,b2,g2,d2,rfl,u1,u2⟩ i E3 dM,d.trans ((aL i (Nat.le_of_lt E3.lt) (nL _)).mono oM)⟩
end Go.Proofs.YtopclbeomcggiaaGreat
end
