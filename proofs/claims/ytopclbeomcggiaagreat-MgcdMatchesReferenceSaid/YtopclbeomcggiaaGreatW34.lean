/- Images of polynomials modulo 2^31 - 1: the images' greatest common divisor has at least the degree of a common divisor. No program in sight. -/
import Derived.Test.YtopclbeomcggiaaGreatW33
set_option linter.unusedVariables false
set_option linter.unusedSimpArgs false
set_option maxHeartbeats 16000000
set_option maxRecDepth 100000
section
namespace Q
open MP
def ja (v t:Nat):Nat->MP->MP
 | 0,p=>p
 | w+1,p=>if w=v then ja v t w p else at' w ((t+w:Nat):Rat) (ja v t w p)
theorem xS(v t:Nat):∀(w:Nat)(p q:MP),ja v t w (p*q)=ja v t w p*ja v t w q
 | 0,_,_=>rfl
 | w+1,p,q=>by
  simp only[ja];split
  ·exact xS v t w p q
  ·rw[xS v t w p q,Di]
theorem xU(v t:Nat){D:Nat}:∀(w:Nat){p:MP},p.dv D->(ja v t w p).dv D
 | 0,_,h=>h
 | w+1,p,h=>by
  simp only[ja];split
  ·exact xU v t w h
  ·rw[<-Rat.intCast_natCast];exact Rz (xU v t w h) w _
theorem uA(v t:Nat)(hv:v<4):∀(w:Nat),w<=4->∀{p:MP}{u d:Nat},u<4->p.deg u<=d->(ja v t w p).deg u<=d
 | 0,_,_,_,_,_,h=>h
 | w+1,hw,p,u,d,hu,h=>by
  simp only[ja];split
  ·exact uA v t hv w (by omega) hu h
  ·exact GL _ _ (by omega) hu (uA v t hv w (by omega) hu h)
def Fq (v t:Nat) (e:Ex):Nat->Nat
 | 0=>1
 | w+1=>if w=v then Fq v t e w else Fq v t e w*(t+w)^(e.get w).toNat
def SA (v:Nat) (e:Ex):Nat->Ex
 | 0=>e
 | w+1=>if w=v then SA v e w else(SA v e w).put w 0
theorem AR(v:Nat)(hv:v<4)(e:Ex):∀w,w<=4->∀u,u<4->(SA v e w).get u=if u<w/\u≠v then 0 else e.get u
 | 0,_,u,_=>by simp[SA]
 | w+1,hw,u,hu=>by
  have i:=AR v hv e w oM u hu;simp only[SA];split
  ·rename_i h;rw[i];by_cases b:u<w/\u≠v
   ·rw[if_pos b,if_pos ⟨oM,b.2⟩]
   ·rw[if_neg b,if_neg oM]
  ·rename_i h;by_cases b:w=u
   ·subst b;rw[Ex.get_put,if_pos ⟨oM,h⟩]
   ·rw[Ex.get_put_ne _ oM hu b,i];by_cases d:u<w/\u≠v
    ·rw[if_pos d,if_pos ⟨oM,d.2⟩]
    ·rw[if_neg d,if_neg oM]
theorem Xu(f:Ex->Rat)(w:Nat)(r:Rat)(p:MP):Lf f (at' w r p).l=Lf (λe=>r^(e.get w).toNat * f (e.put w 0)) p.l:=by have h:dO (evalL p.l w r):=dO.evalL p.v.nat w r;show Lf f (canon (evalL p.l w r))=_;rw[kJ h f];exact yn _ _ _ _ λt _=>by show t.2*r^_*f (t.1.put w 0)=_;grind
theorem Nq(v t:Nat)(hv:v<4)(p:MP):∀(w:Nat),w<=4->∀f:Ex->Rat,Lf f (ja v t w p).l=Lf (λe=>(Fq v t e w:Rat)*f (SA v e w)) p.l
 | 0,_,f=>jG λs _=>by show f s.1=((1:Nat):Rat)*f s.1;have e:((1:Nat):Rat)=1:=rfl;rw[e];grind
 | w+1,hw,f=>by
  have b:=Nq v t hv p w oM;by_cases h:w=v
  ·simp only[ja,Fq,SA,if_pos h];exact b f
  ·simp only[ja,Fq,SA,if_neg h];rw[Xu,b];refine jG λs _=>?_;have e:(SA v s.1 w).get w=s.1.get w:=by rw[AR v hv s.1 w oM w oM,if_neg oM]
   rw[e,Rat.natCast_mul,Rat.natCast_pow];grind
theorem TR(v t:Nat)(hv:v<4)(p:MP)(i:Nat):cf (ja v t 4 p).l (e0.put v i)=Lf (λe=>if e.get v=i then(Fq v t e 4:Rat)else 0) p.l:=by
 show Lf _ _=_;rw[Nq v t hv p 4 (Nat.le_refl _)];refine jG λs _=>?_
 have e:(SA v s.1 4=e0.put v i)↔s.1.get v=(i:Int):=by
  constructor
  ·intro h;have:=congrArg (Ex.get · v) h;simp only[AR v hv s.1 4 (Nat.le_refl _) v hv,Ex.get_put]at this;rw[if_neg oM]at this;exact this
  ·intro h;refine Ex.ext4 λu hu=>?_;rw[AR v hv s.1 4 (Nat.le_refl _) u hu];by_cases hc:v=u
   ·subst hc;rw[if_neg oM,Ex.get_put,h]
   ·rw[if_pos ⟨hu,Ne.symm hc⟩,Ex.get_put_ne _ hv hu hc,Bh]
 by_cases hc:s.1.get v=(i:Int)
 ·rw[if_pos hc,if_pos (e.2 hc)];grind
 ·rw[if_neg hc,if_neg λh=>hc (e.1 h)];grind
def Cg (a b:Int):Prop:=∃k:Int,a=b+2147483647*k
theorem Cg.refl(a:Int):Cg a a:=⟨0,oM⟩
theorem Cg.symm{a b:Int}(h:Cg a b):Cg b a:=by obtain⟨k,h⟩:=h;exact⟨-k,oM⟩
theorem Cg.trans{a b c:Int}(h:Cg a b)(d:Cg b c):Cg a c:=by obtain⟨k,h⟩:=h;obtain⟨l,d⟩:=d;exact⟨k+l,oM⟩
theorem Cg.add{a b c d:Int}(h:Cg a b)(e:Cg c d):Cg (a+c) (b+d):=by obtain⟨k,h⟩:=h;obtain⟨l,e⟩:=e;exact⟨k+l,oM⟩
theorem Cg.mul{a b c d:Int}(h:Cg a b)(e:Cg c d):Cg (a*c) (b*d):=by obtain⟨k,rfl⟩:=h;obtain⟨l,rfl⟩:=e;exact⟨b*l+k*d+2147483647*k*l,gR⟩
theorem Cg.mod(a:Nat):Cg ((a%pr:Nat):Int) a:=⟨-((a/pr:Nat):Int),by have:=Nat.div_add_mod a pr;rw[jm]at *;omega⟩
theorem Cg.zero{a:Int}(h:Cg a 0):(2147483647:Int)∣a:=by obtain⟨k,h⟩:=h;exact⟨k,oM⟩
theorem Cg.cancel{a b d:Int}(hd:¬(2147483647:Int)∣d)(h:Cg (a*d) (b*d)):Cg a b:=by
 obtain⟨k,h⟩:=h;have i:((pr:Nat):Int)∣(a - b)*d:=⟨k,by rw[jm];grind⟩;rcases AQ Dn i with e|e
 ·obtain⟨l,e⟩:=e;exact⟨l,by rw[jm]at e;omega⟩
 ·rw[jm]at e;exact absurd e hd
theorem xV(z:Int):Cg (dY z) z:=by
 unfold dY;split
 ·exact⟨(z.natAbs/2147483647:Nat)+1,by have:=Nat.div_add_mod z.natAbs 2147483647;omega⟩
 ·rename_i h;by_cases hz:z<0
  ·exact⟨(z.natAbs/2147483647:Nat),by have:=Nat.div_add_mod z.natAbs 2147483647;omega⟩
  ·exact⟨-((z.natAbs/2147483647:Nat):Int),by have:=Nat.div_add_mod z.natAbs 2147483647;omega⟩
theorem TS(a:Nat){n:Nat}(h:n<18446744073709551616):Cg (jA a n) ((a^n:Nat):Int):=by rw[Np a h];exact Cg.mod _
theorem Nr{m:ai}{v t:Nat}(i:m.1.nat=true)(he:∀w,m.1.get w<18446744073709551616):∀w:Nat,Cg (si m v t w) ((dY m.2.num*jA (dY m.2.den) (pr-2):Nat)*(Fq v t m.1 w:Nat):Int)
 | 0=>by rw[si,Fq];have:=Cg.mod (dY m.2.num*jA (dY m.2.den) (pr-2));have e:∀x:Int,x*((1:Nat):Int)=x:=λx=>oM;rw[e];exact this
 | w+1=>by
  rw[si,Fq];have b:=Nr (v:=v) (t:=t) i he w;split
  ·exact b
  ·have d:=TS (t+w) (n:=(m.1.get w).toNat) (by have:=he w;omega);have h:=(Cg.mod (si m v t w*jA (t+w) (m.1.get w).toNat)).trans (by rw[Int.natCast_mul];exact b.mul d);rw[Int.natCast_mul (Fq v t m.1 w),<-Int.mul_assoc];exact h
theorem TT{m:ai}{v t:Nat}(p:m.1.nat=true)(he:∀w,m.1.get w<18446744073709551616)(hd:dY m.2.den≠0):Cg (Lb m v t*m.2.den) (m.2.num*(Fq v t m.1 4:Nat)):=by
 have n:=Nr (v:=v) (t:=t) p he 4;have i:=xV m.2.num;have j:=xV (m.2.den:Int);have b:dY (m.2.den:Int)<pr:=qc _;have l:=LH (x:=dY (m.2.den:Int)) oM b;have d:=Cg.mod (jA (dY m.2.den) (pr-2)*dY m.2.den);rw[l]at d
 have o:Cg ((jA (dY m.2.den) (pr-2):Nat)*(m.2.den:Int)) 1:=by have:=(Cg.refl ((jA (dY m.2.den) (pr-2):Nat):Int)).mul j;refine(this.symm.trans ?_);rw[<-Int.natCast_mul];exact d.symm
 have k:=n.mul (Cg.refl (m.2.den:Int));refine k.trans ?_;have h:=(i.mul o).mul (Cg.refl (Fq v t m.1 4:Int));rw[Int.mul_one]at h;rw[Int.natCast_mul];have e:(dY m.2.num:Int)*(jA (dY m.2.den) (pr-2):Nat)*(Fq v t m.1 4:Nat)*m.2.den=(dY m.2.num:Int)*((jA (dY m.2.den) (pr-2):Nat)*(m.2.den:Int))*(Fq v t m.1 4:Nat):=gR;rw[e];exact h
def cS (N v t i:Nat):List ai->Int
 | []=>0
 | m::l=>(if m.1.get v=(i:Int)then(m.2*(N:Rat)).num*(Fq v t m.1 4:Nat)else 0)+cS N v t i l
theorem UL{N v t i:Nat}:∀{l:List ai},(∀m∈l,Dv N m.2)->(N:Rat)*Lf (λe=>if e.get v=i then(Fq v t e 4:Rat)else 0) l=(cS N v t i l:Rat)
 | [],_=>by show(N:Rat)*0=((0:Int):Rat);rw[Rat.mul_zero];rfl
 | m::l,h=>by
  have d:=UL (i:=i) (v:=v) (t:=t) (l:=l) λs j=>h s (by simp[j]);obtain⟨k,b⟩:=h m sM;rw[ry,cS,Rat.intCast_add,<-d,b];split
  ·rw[Rat.intCast_mul,Rat.intCast_natCast];have:((k:Rat)).num=k:=rfl;rw[this,<-b];grind
  ·rw[Rat.intCast_zero];grind
theorem Jy{N v t:Nat}(hv:v<4):∀{l:List ai}{out x:List Nat},jo v t l out=some x->dO l->(∀m∈l,∀w,m.1.get w<18446744073709551616)->(∀m∈l,Dv N m.2)->(∀m∈l,(m.1.get v).toNat<out.length) ->
  x.length=out.length/\∀i,i<out.length->Cg ((N:Int)*x.getD i 0) ((N:Int)*out.getD i 0+cS N v t i l)
 | [],out,x,h,_,_,_,_=>by simp only[jo,Option.some.injEq]at h;subst h;exact⟨rfl,λi _=>by rw[cS,Int.add_zero];exact Cg.refl _⟩
 | m::l,out,x,h,hn,he,hd,hk=>by
  rw[jo]at h;split at h
  ·cases h
  ·rename_i d;have hm:=hn m sM;obtain⟨o,k⟩:=Jy hv h (λs j=>hn s (by simp[j])) (λs j=>he s (by simp[j])) (λs j=>hd s (by simp[j])) (λs j=>by rw[List.length_set];exact hk s (by simp[j]));rw[List.length_set]at o k;refine⟨o,λi E=>(k i E).trans ?_⟩;rw[cS,<-Int.add_assoc];refine Cg.add ?_ (Cg.refl _);have G:=hk m sM;have u:=Ex.nat_get hm v;by_cases hc:m.1.get v=(i:Int)
   ·have e:(m.1.get v).toNat=i:=oM;rw[if_pos hc,e,List.getD_eq_getElem?_getD,List.getElem?_set_self oM,Option.getD_some];have p:=Cg.mod (out.getD i 0+Lb m v t);rw[Int.natCast_add]at p;have F:=(Cg.refl (N:Int)).mul p;refine F.trans ?_;rw[Int.mul_add];refine(Cg.refl _).add ?_;have B:=TT (v:=v) (t:=t) hm (he m sM) d;obtain⟨z,hz⟩:=hd m sM;rw[hz];show Cg _ (z*_)
    have n:¬(2147483647:Int)∣m.2.den:=λq=>d (by
     have:=xV (m.2.den:Int);have I:=qc (m.2.den:Int);obtain⟨a,ha⟩:=q;obtain⟨b,hb⟩:=this
     omega)
    refine Cg.cancel n ?_
    have y:z*m.2.den=N*m.2.num:=by
     have C:m.2*(m.2.den:Rat)=m.2.num:=by have o:(m.2.den:Rat)≠0:=jE m.2.den_pos;have k:=Rat.num_divInt_den m.2;rw[Rat.divInt_eq_div,Rat.intCast_natCast]at k;have p:(m.2.num:Rat)/(m.2.den:Rat)*(m.2.den:Rat)=m.2.num:=Rat.div_mul_cancel o;rwa[k]at p
     have H:((z*m.2.den:Int):Rat)=((N*m.2.num:Int):Rat):=by rw[Rat.intCast_mul,Rat.intCast_mul,<-hz,<-C,Rat.intCast_natCast,Rat.intCast_natCast];grind
     exact Rat.intCast_inj.1 H
    have r:=(Cg.refl (N:Int)).mul B;have e1:(N:Int)*Lb m v t*m.2.den=N*(Lb m v t*m.2.den):=gR
    have D:z*(Fq v t m.1 4:Nat)*m.2.den=N*(m.2.num*(Fq v t m.1 4:Nat)):=by have:z*(Fq v t m.1 4:Nat)*m.2.den=(z*m.2.den)*(Fq v t m.1 4:Nat):=gR;rw[this,y];grind
    rw[e1,D];exact r
   ·have e:(m.1.get v).toNat≠i:=oM;rw[if_neg hc,Int.add_zero,List.getD_eq_getElem?_getD,List.getElem?_set_ne e,<-List.getD_eq_getElem?_getD];exact Cg.refl _
theorem Dt(n i:Nat):(List.replicate n 0).getD i 0=0:=by
 rw[List.getD_eq_getElem?_getD];rcases Nat.lt_or_ge i n with h|h
 ·rw[List.getElem?_replicate,if_pos h];rfl
 ·rw[List.getElem?_eq_none (by simpa using h)];rfl
def qB (v:Nat) (l:List Nat):MP:=cK (λi=>c ((l.getD i 0:Nat):Rat)*xk v i) l.length
theorem nN(v:Nat)(l:List Nat)(i:Nat):(qB v l).co v i=c ((l.getD i 0:Nat):Rat):=by
 rw[qB,rT];rcases Nat.lt_or_ge i l.length with h|h
 ·rw[pR _ h λj _ b=>by rw[co_mul_fr (nX _ _),fH,if_neg (Ne.symm b)];grind];rw[co_mul_fr (nX _ _),fH,if_pos rfl];grind
 ·rw[dF (g:=λ_=>0) λj b=>by rw[co_mul_fr (nX _ _),fH,if_neg oM];grind,mV];rw[List.getD_eq_getElem?_getD,List.getElem?_eq_none h];rfl
theorem Pd(v:Nat)(l:List Nat):(qB v l).deg v<=(l.length:Int)-1:=by refine deg_le_of oM λn b=>?_;rw[nN,List.getD_eq_getElem?_getD,List.getElem?_eq_none oM];rfl
theorem LJ(v:Nat){p q:MP}(h:∀i,p.co v i=q.co v i):p=q:=by obtain⟨N,b⟩:∃N,N=(max (p.deg v) (q.deg v)).toNat+1:=⟨_,rfl⟩;rw[split v p (N:=N) oM,split v q (N:=N) oM];exact dF λi _=>by rw[h i]
def TU (v:Nat) (F:MP) (l:List Nat):Prop:=∃E R:MP,E.dv 1/\R.dv 1/\qB v l=F*E+c (pr:Rat)*R
theorem RL(n:Nat):(c (n:Rat)).dv 1:=by rw[<-Rat.intCast_natCast];exact vY 1 _
theorem Ns(v k:Nat):(xk v k).dv 1:=λt b=>by rw[List.mem_singleton.1 b];exact Dv.int 1 1
theorem RN(v:Nat)(l:List Nat):(qB v l).dv 1:=xJ λi _=>jd (RL _) (Ns v i)
theorem RO(l:List Nat)(k y i:Nat)(b:k<l.length):(l.set k y).getD i 0=if i=k then y else l.getD i 0:=by
 rw[List.getD_eq_getElem?_getD];by_cases h:i=k
 ·subst h;rw[if_pos rfl,List.getElem?_set_self b];rfl
 ·rw[if_neg h,List.getElem?_set_ne (Ne.symm h),List.getD_eq_getElem?_getD]
theorem UM(r s:Rat):c (r+s)=c r+c s:=ext' λx=>by rw[MP.ev_add,ev_c,ev_c,ev_c]
theorem zm:∀(l:List Nat)(i:Nat),(strip l).getD i 0=l.getD i 0
 | [],_=>rfl
 | x::l,i=>by
  have b:=zm l;rw[strip];split
  ·rename_i h;rw[h]at b;have hz:∀j,l.getD j 0=0:=λj=>by rw[<-b j];rfl
   split
   ·rename_i d
    cases i with
    | zero=>rw[d];rfl
    | succ i=>have:=hz i;simpa using this.symm
   ·cases i with
    | zero=>rfl
    | succ i=>have:=hz i;simpa using this.symm
  ·rename_i y r h;rw[<-h]
   cases i with
   | zero=>rfl
   | succ i=>have:=b i;simpa using this
theorem Jz(v:Nat)(l:List Nat):qB v (strip l)=qB v l:=LJ v λi=>by rw[nN,nN,zm]
def Tp (l:List Nat):Prop:=l≠[]->l.getD (l.length-1) 0≠0
theorem xW:∀l:List Nat,Tp (strip l)
 | []=>λh=>absurd rfl h
 | x::l=>by
  have b:=xW l;rw[strip];split
  ·split
   ·exact λh=>absurd rfl h
   ·rename_i d;exact λ_=>d
  ·rename_i y r h;rw[h]at b;intro _;have:=b sM;simpa using this
theorem Fs:∀l:List Nat,(strip l).length<=l.length
 | []=>Nat.le_refl _
 | x::l=>by
  have b:=Fs l;rw[strip];split
  ·split<;>simp
  ·rename_i y r h;rw[h]at b;simpa using b
theorem RP{l:List Nat}(i:l≠[])(h:l.getD (l.length-1) 0=0):(strip l).length<l.length:=by
 have j:=Fs l;rcases Nat.eq_or_lt_of_le j with e|hlt
 ·exfalso;have b:strip l≠[]:=λk=>by rw[k]at e;have:=List.length_eq_zero_iff.1 e.symm;exact i this
  have d:=xW l b;rw[zm,e]at d;exact d h
 ·exact hlt
theorem zo{l:List Nat}(h:∀x∈l,x<pr):∀x∈strip l,x<pr:=by
 induction l with
 | nil=>exact h
 | cons x l d =>
  have d:=d λy b=>h y (by simp[b]);rw[strip];split
  ·split
   ·intro _ b;cases b
   ·intro y b;rw[List.mem_singleton.1 b];exact h x sM
  ·rename_i z r e;rw[e]at d;intro y b;rcases List.mem_cons.1 b with rfl|b
   ·exact h _ sM
   ·exact d y b
theorem qY(b rest:List Nat)(f at_:Nat):∀i,(fC b rest f at_ i).length=rest.length
 | 0=>rfl
 | i+1=>by rw[fC,List.length_set,qY b rest f at_ i]
theorem uU{b rest:List Nat}{f at_:Nat}(h:∀x∈rest,x<pr):∀i,∀x∈fC b rest f at_ i,x<pr
 | 0=>h
 | i+1=>λx d=>by
  rw[fC]at d;rcases List.mem_or_eq_of_mem_set d with d|rfl
  ·exact uU h i x d
  ·exact Nat.mod_lt _ (by decide)
theorem zq{b rest:List Nat}{f at_:Nat}:∀(i:Nat),at_+i<=rest.length->∀j,(fC b rest f at_ i).getD j 0=if at_<=j/\j<at_+i then(rest.getD j 0+(pr-b.getD (j-at_) 0)*f)%pr else rest.getD j 0
 | 0,_,j=>by rw[fC,if_neg (by omega)]
 | i+1,h,j=>by
  have e:=zq (b:=b) (rest:=rest) (f:=f) (at_:=at_) i oM;rw[fC,RO _ _ _ _ (by rw[qY];omega),e j,e (at_+i)];by_cases k:j=at_+i
  ·subst k;rw[if_pos rfl,if_neg oM,if_pos oM,(oM:at_+i-at_=i)]
  ·rw[if_neg k];by_cases d:at_<=j/\j<at_+i
   ·rw[if_pos d,if_pos oM]
   ·rw[if_neg d,if_neg oM]
theorem TU.red{v:Nat}{F:MP}{b rest:List Nat}(M:TU v F rest)(hb:TU v F b)(r:∀x∈b,x<pr)(f:Nat){at_:Nat}(h:at_+b.length=rest.length):TU v F (fC b rest f at_ b.length):=by
 obtain⟨E,R,J,H,e⟩:=M;obtain⟨D,O,u,p,X⟩:=hb
 have key:∃K:MP,K.dv 1/\qB v (fC b rest f at_ b.length)=qB v rest-c (f:Rat)*(xk v at_*qB v b)+c (pr:Rat)*K:=by
  have hq:∀j,∃k:Int,((fC b rest f at_ b.length).getD j 0:Int)=(rest.getD j 0:Int)-(if at_<=j then(f:Int)*(b.getD (j-at_) 0:Nat)else 0)+2147483647*k:=λj=>by
   rw[zq b.length oM];by_cases d:at_<=j/\j<at_+b.length
   ·rw[if_pos d,if_pos d.1]
    have q:b.getD (j-at_) 0<pr:=by rw[List.getD_eq_getElem?_getD,List.getElem?_eq_getElem (by omega:j-at_<b.length)];exact r _ (List.getElem_mem _)
    obtain⟨y,S⟩:∃y,y=b.getD (j - at_) 0:=⟨_,rfl⟩;rw[<-S]at q ⊢;obtain⟨k,n⟩:=Cg.mod (rest.getD j 0+(pr - y)*f);refine⟨k+f,?_⟩;rw[n,Int.natCast_add,Int.natCast_mul,Int.ofNat_sub oM,jm];grind
   ·rw[if_neg d];refine⟨0,?_⟩;by_cases o:at_<=j
    ·rw[if_pos o,List.getD_eq_getElem?_getD (l:=b),List.getElem?_eq_none oM];simp
    ·rw[if_neg o];omega
  have ⟨k,n⟩:∃k:Nat->Int,∀j,((fC b rest f at_ b.length).getD j 0:Int)=(rest.getD j 0:Int)-(if at_<=j then(f:Int)*(b.getD (j-at_) 0:Nat)else 0)+2147483647*k j :=
   ⟨λj=>(((fC b rest f at_ b.length).getD j 0:Int)-((rest.getD j 0:Int)-(if at_<=j then(f:Int)*(b.getD (j-at_) 0:Nat)else 0)))/2147483647,λj=>by
    obtain⟨k,n⟩:=hq j
    simp only[n];omega⟩
  refine⟨cK (λi=>c (k i:Rat)*xk v i) rest.length,xJ λi _=>jd (vY 1 _) (Ns v i),LJ v λj=>?_⟩
  have L:(cK (λi=>c (k i:Rat)*xk v i) rest.length).co v j=if j<rest.length then c (k j:Rat)else 0:=by
   rw[rT];split
   ·rename_i m;rw[pR _ m λi _ B=>by rw[co_mul_fr (nX _ _),fH,if_neg (Ne.symm B)];grind];rw[co_mul_fr (nX _ _),fH,if_pos rfl];grind
   ·rename_i m;rw[dF (g:=λ_=>0) λi B=>by rw[co_mul_fr (nX _ _),fH,if_neg oM];grind,mV]
  rw[co_add,co_sub,co_mul_fr (nX _ _),co_xk,co_mul_fr (nX _ _),L,nN,nN,nN];have d:=n j
  have o:(((fC b rest f at_ b.length).getD j 0:Nat):Rat)=(rest.getD j 0:Nat)-(if at_<=j then(f:Rat)*(b.getD (j-at_) 0:Nat)else 0)+(pr:Rat)*(k j:Rat):=by
   have C:=congrArg (λz:Int=>(z:Rat)) d;simp only[Rat.intCast_add,Rat.intCast_sub,Rat.intCast_mul,Rat.intCast_natCast]at C;rw[C,jm];by_cases hc:at_<=j
   ·rw[if_pos hc,if_pos hc,Rat.intCast_mul,Rat.intCast_natCast,Rat.intCast_natCast];rfl
   ·rw[if_neg hc,if_neg hc];rfl
  rw[o]
  have s:¬j<rest.length->(k j:Rat)=0:=λm=>by
   have Y:(fC b rest f at_ b.length).getD j 0=0:=by rw[List.getD_eq_getElem?_getD,List.getElem?_eq_none (by rw[qY];omega)];rfl
   have G:rest.getD j 0=0:=by rw[List.getD_eq_getElem?_getD,List.getElem?_eq_none oM];rfl
   have W:b.getD (j-at_) 0=0:=by rw[List.getD_eq_getElem?_getD,List.getElem?_eq_none oM];rfl
   rw[Y,G,W]at d;have:k j=0:=by split at d<;>omega
   rw[this];rfl
  refine ext' λx=>?_;by_cases m:j<rest.length
  ·rw[if_pos m];by_cases hc:at_<=j
   ·rw[if_pos hc,if_pos hc];simp only[MP.ev_add,MP.ev_sub,MP.ev_mul,ev_c]
   ·rw[if_neg hc,if_neg hc];simp only[MP.ev_add,MP.ev_sub,MP.ev_mul,ev_c,ev_zero];grind
  ·rw[if_neg m,s m];by_cases hc:at_<=j
   ·rw[if_pos hc,if_pos hc];simp only[MP.ev_add,MP.ev_sub,MP.ev_mul,ev_c,ev_zero]
   ·rw[if_neg hc,if_neg hc];simp only[MP.ev_add,MP.ev_sub,MP.ev_mul,ev_c,ev_zero];grind
 obtain⟨K,N,I⟩:=key;have i1:(c (f:Rat)*xk v at_).dv 1:=jd (RL f) (Ns v at_);refine⟨E - c (f:Rat)*xk v at_*D,R - c (f:Rat)*xk v at_*O+K,CB J (jd i1 u),Cz (CB H (jd i1 p)) N,?_⟩;rw[I,e,X];grind
theorem TU.strip{v:Nat}{F:MP}{l:List Nat}(h:TU v F l):TU v F (strip l):=by obtain⟨E,R,d,b,e⟩:=h;exact⟨E,R,d,b,by rw[Jz,e]⟩
structure Gd (v:Nat) (F:MP) (l:List Nat):Prop where
 d:TU v F l
 t:Tp l
 m:∀x∈l,x<pr
theorem Gd.rest{v:Nat}{F:MP}{b:List Nat}(hb:Gd v F b)(inv:Nat):∀{n:Nat}{r x:List Nat},kU b inv n r=some x->Gd v F r->Gd v F x
 | 0,_,_,h,_=>by cases h
 | n+1,r,x,h,hr=>by
  rw[kU]at h;split at h
  ·rename_i kL;exact Gd.rest hb inv h ⟨(hr.d.red hb.d hb.m _ (by omega)).strip,xW _,zo (uU hr.m _)⟩
  ·simp only[Option.some.injEq]at h;subst h;exact hr
theorem Gd.share{v:Nat}{F:MP}:∀{n:Nat}{a b:List Nat}{k:Nat},gY n a b=some k->Gd v F a->Gd v F b->a≠[]->∃l,Gd v F l/\l≠[]/\l.length=k
 | 0,_,_,_,h,_,_,_=>by cases h
 | n+1,a,b,k,h,ha,hb,hne=>by
  rw[gY]at h;split at h
  ·simp only[Option.some.injEq]at h;exact⟨a,ha,hne,h⟩
  ·rename_i d;split at h
   ·cases h
   ·rename_i r e;exact Gd.share h hb (hb.rest _ e ha) d
theorem Gd.len{v:Nat}{F:MP}{l:List Nat}(h:Gd v F l)(H:l≠[])(S:F.dv 1)(O:¬Dh pr (F.lc v)):F.deg v<=(l.length:Int)-1:=by
 obtain⟨E,R,K,iR,e⟩:=h.d;have L:0<pr:=dM;rcases Int.lt_or_le ((l.length:Int) - 1) (F.deg v)with hlt|kL
 ·exfalso;have Z:=GJ (vg pr) E;obtain⟨X,iX,eX⟩:=GK L K;obtain⟨i,k⟩:∃g,g=Sy (λt=>!vg pr t) E:=⟨_,rfl⟩;have M:i.dv 1:=by rw[k];exact Lt K
  rw[<-k,eX]at Z;have W:qB v l=F*i+c (pr:Rat)*(F*X+R):=by rw[e,Z];grind
  have o:(F*X+R).dv 1:=Cz (jd S iX) iR;have I:F≠0:=λh0=>O (by rw[h0];exact uy pr);by_cases hz:i=0
  ·have j:=congrArg (λg=>cf (MP.co v (l.length-1) g).l e0) W;simp only[nN,hz]at j;have e3:F*0+c (pr:Rat)*(F*X+R)=c (pr:Rat)*(F*X+R):=gR;rw[e3,co_mul_fr (nX _ _),qy]at j
   have i3:((F*X+R).co v (l.length-1)).dv 1:=λt b=>by have b:t∈((F*X+R).l.filter λu=>u.1.get v=((l.length - 1:Nat):Int)).map λu=>(u.1.put v 0,u.2):=b;obtain⟨u,hu,rfl⟩:=List.mem_map.1 b;exact o u (List.mem_filter.1 hu).1
   obtain⟨z,hz⟩:=iD (EY i3 e0);rw[hz]at j;have b:=h.t H
   have hm:l.getD (l.length-1) 0<pr:=by rw[List.getD_eq_getElem?_getD,List.getElem?_eq_getElem (by have:=List.length_pos_iff.2 H;omega:l.length-1<l.length)];exact h.m _ (List.getElem_mem _)
   have e4:cf (c ((l.getD (l.length-1) 0:Nat):Rat)).l e0=((l.getD (l.length-1) 0:Nat):Rat):=by show cf (bZ _) e0=_;rw[bZ,if_neg (jE oM),bJ,jq,if_pos rfl];exact Rat.add_zero _
   rw[e4,<-Rat.intCast_natCast,<-Rat.intCast_natCast,<-Rat.intCast_mul]at j;have h5:=Rat.intCast_inj.1 j;have h6:(0:Int)<((l.getD (l.length-1) 0:Nat):Int):=oM;rw[jm]at *;omega
  ·have j:=congrArg (λg=>MP.co v ((F.deg v).toNat+(i.deg v).toNat) g) W;simp only[co_add]at j;rw[vL v I hz,co_mul_fr (nX _ _)]at j;have hd:=Pd v l;have:=deg_pos I v;rw[co_above oM]at j
   have i3:((F*X+R).co v ((F.deg v).toNat+(i.deg v).toNat)).dv 1:=λt b=>by have b:t∈((F*X+R).l.filter λu=>u.1.get v=(((F.deg v).toNat+(i.deg v).toNat:Nat):Int)).map λu=>(u.1.put v 0,u.2):=b;obtain⟨u,hu,rfl⟩:=List.mem_map.1 b;exact o u (List.mem_filter.1 hu).1
   have C:(F.lc v).dv 1:=λt b=>by have b:t∈(F.l.filter λu=>u.1.get v=((F.deg v).toNat:Int)).map λu=>(u.1.put v 0,u.2):=b;obtain⟨u,hu,rfl⟩:=List.mem_map.1 b;exact S u (List.mem_filter.1 hu).1
   have n:(i.lc v).dv 1:=λt b=>by have b:t∈(i.l.filter λu=>u.1.get v=((i.deg v).toNat:Int)).map λu=>(u.1.put v 0,u.2):=b;obtain⟨u,hu,rfl⟩:=List.mem_map.1 b;exact M u (List.mem_filter.1 hu).1
   have J:Dh pr (F.lc v*i.lc v):=⟨-((F*X+R).co v ((F.deg v).toNat+(i.deg v).toNat)),QZ i3,gR⟩;rcases Fj Dn C n J with h3|h3
   ·exact O h3
   ·obtain⟨Y,iY,eY⟩:=h3;obtain⟨t,r,b⟩:=je (lc_ne hz v);have p:t∈(i.lc v).l:=by rw[b];simp
    have G:=KY p;rw[eY,qy]at G;have s:t∈(i.l.filter λu=>u.1.get v=((i.deg v).toNat:Int)).map λu=>(u.1.put v 0,u.2):=p;obtain⟨u,hu,rfl⟩:=List.mem_map.1 s;have q:=(List.mem_filter.1 hu).1;rw[k]at q;have D:u∈E.l.filter (λt=>!vg pr t):=q;have B:=(List.mem_filter.1 D).2;obtain⟨y,hy⟩:=iD (EY iY (u.1.put v 0));obtain⟨x,N⟩:=iD (K u (List.mem_filter.1 D).1);simp only[vg,Bool.not_eq_true',decide_eq_false_iff_not,N]at B;have G:(pr:Rat)*cf Y.l (u.1.put v 0)=u.2:=G;rw[hy,N,<-Rat.intCast_natCast,<-Rat.intCast_mul]at G;exact B (Int.emod_eq_zero_of_dvd ⟨y,(Rat.intCast_inj.1 G).symm⟩)
 ·exact kL
theorem RQ(v t:Nat)(r:Rat):∀w,ja v t w (c r)=c r
 | 0=>rfl
 | w+1=>by simp only[ja];split<;>simp only[RQ v t r w,Yw]
theorem GQ(v t:Nat)(p:MP):∀w,w<=4->∀u,u<w->u≠v->(ja v t w p).fr u
 | 0,_,u,h,_=>by omega
 | w+1,hw,u,h,hne=>by
  simp only[ja];split
  ·rename_i e;exact GQ v t p w (by omega) u (by omega) hne
  ·rcases Nat.eq_or_lt_of_le (show u<=w by omega)with e|h1
   ·subst e;exact Nj _ _ _
   ·have b:(ja v t w p).deg u<=(0:Nat):=GQ v t p w oM u h1 hne;exact GL _ _ oM oM b
theorem Xv(v i:Nat)(hv:v<4)(p:MP):cf (p.co v i).l e0=cf p.l (e0.put v i):=by
 show Lf _ (aN p.l v i)=Lf _ _;rw[fG];refine jG λs _=>?_;by_cases h:s.1=e0.put v i
 ·rw[if_pos h,h,Ex.get_put,if_pos rfl,Ex.put_put,if_pos];have:=Ex.put_get e0 v;rw[Bh]at this;exact this
 ·rw[if_neg h];by_cases b:s.1.get v=(i:Int)
  ·rw[if_pos b,if_neg λd=>h (by rw[<-d,Ex.put_put,<-b,Ex.put_get])]
  ·rw[if_neg b]
theorem Yy{p:MP}(h:p.lo 0):p=c (cf p.l e0):=by
 obtain⟨r,rfl⟩:=jX h
 congr 1
 show r=cf (bZ r) e0;unfold bZ;split
 ·rename_i h;rw[h];rfl
 ·rw[bJ,jq,if_pos rfl];exact(Rat.add_zero _).symm
theorem TV(v t i:Nat)(hv:v<4)(p:MP):(ja v t 4 p).co v i=c (cf (ja v t 4 p).l (e0.put v i)):=by
 rw[<-Xv v i hv];refine Yy λw _ b=>?_;by_cases h:w=v
 ·subst h;exact co_fr _ _ _
 ·exact UA b hv (GQ v t p 4 (Nat.le_refl _) w b h)
def JA:List ai->Nat
 | []=>1
 | t::l=>t.2.den*JA l
theorem Fu:∀l,0<JA l
 | []=>Nat.one_pos
 | t::l=>Nat.mul_pos t.2.den_pos (Fu l)
theorem JB:∀{l:List ai},∀t∈l,Dv (JA l) t.2
 | s::l,t,h=>by
  rcases List.mem_cons.1 h with rfl|h
  ·exact(Gw _).dvd (Nat.dvd_mul_right _ _)
  ·exact(JB t h).dvd (Nat.dvd_mul_left _ _)
theorem Du{v t:Nat}:∀{l:List ai}{out x:List Nat},jo v t l out=some x->¬pr∣JA l
 | [],_,_,_=>by decide
 | m::l,out,x,h=>by
  rw[jo]at h;split at h
  ·cases h
  ·rename_i d;have i:=Du h;intro hd;rcases Dl Dn hd with h1|h1
   ·apply d;have e:=xV (m.2.den:Int);have j:=qc (m.2.den:Int);obtain⟨a,ha⟩:=h1;obtain⟨b,hb⟩:=e;rw[jm]at ha;omega
   ·exact i h1
theorem uV{v t:Nat}:∀{l:List ai}{out x:List Nat},jo v t l out=some x->(∀y∈out,y<pr)->∀y∈x,y<pr
 | [],out,x,h,ho=>by simp only[jo,Option.some.injEq]at h;subst h;exact ho
 | m::l,out,x,h,ho=>by
  rw[jo]at h;split at h
  ·cases h
  ·refine uV h λy b=>?_;rcases List.mem_or_eq_of_mem_set b with b|rfl
   ·exact ho y b
   ·exact Nat.mod_lt _ (by decide)
theorem YQ{N:Nat}(h:¬pr∣N):∃M K:Int,(N:Int)*M=1+(pr:Int)*K:=by have j:0<N%pr:=Nat.pos_of_ne_zero λe=>h (Nat.dvd_of_mod_eq_zero e);have d:N%pr<pr:=Nat.mod_lt _ dM;have l:=LH j d;have b:=Cg.mod (jA (N%pr) (pr - 2)*(N%pr));rw[l]at b;have m:=Cg.mod N;have i:=(Cg.refl ((jA (N%pr) (pr - 2):Nat):Int)).mul m;rw[Int.natCast_mul]at b;obtain⟨k,n⟩:=(b.trans i).symm;exact⟨jA (N%pr) (pr - 2),k,by rw[jm];rw[Int.mul_comm];exact n⟩
structure Im (v:Nat) (d:MP) (F:MP) (x:List Nat):Prop where
 g:Gd v F x
 ne:x≠[]
 i:F.dv 1
 l:¬Dh pr (F.lc v)
 dg:F.deg v=d.deg v
theorem UN{D:Nat}{p:MP}(h:p.dv D)(v n:Nat):(p.co v n).dv D:=λt b=>by have b:t∈(p.l.filter λu=>u.1.get v=(n:Int)).map λu=>(u.1.put v 0,u.2):=b;obtain⟨u,hu,rfl⟩:=List.mem_map.1 b;exact h u (List.mem_filter.1 hu).1
theorem RS{v t:Nat}(hv:v<4){a d:MP}(ha:a≠0)(he:∀m∈a.l,∀w,m.1.get w<18446744073709551616){r:Rat}(Z:r≠0)(hp:pz (c r*d))(hd:d∣a){x:List Nat}(hx:iV a.l v t=some x)(hf:il (some x)=true) :
  Im v d (ja v t 4 (c r*d)) x:=by
 obtain⟨e,rfl⟩:=hd;have I:=Du hx;obtain⟨N,hN⟩:∃N,N=JA (d*e).l:=⟨_,rfl⟩;rw[<-hN]at I;have a3:0<N:=by rw[hN];exact Fu _
 have J:(d*e).dv N:=by rw[hN];exact λt ht=>JB t ht
 obtain⟨D,hD⟩:∃D,D=c r*d:=⟨_,rfl⟩;rw[<-hD]at hp ⊢;obtain⟨E,hE⟩:∃E,E=c ((N:Rat)*r⁻¹)*e:=⟨_,rfl⟩
 have hA:c (N:Rat)*(d*e)=D*E:=by
  rw[hD,hE]
  have O:c r*c ((N:Rat)*r⁻¹)=c (N:Rat):=by rw[lX];congr 1;have:=Rat.mul_inv_cancel _ Z;grind
  rw[<-O];grind
 have iE:E.dv 1:=LF (qW J) hp hA
 have s:c (N:Rat)*ja v t 4 (d*e)=ja v t 4 D*ja v t 4 E:=by rw[<-xS,<-hA,xS v t 4 (c (N:Rat)),RQ]
 have d0:d≠0:=λh=>ha (by rw[h];grind);have H:e≠0:=λh=>ha (by rw[h];grind);have a9:=deg_pos ha v;have b:(List.replicate (aD (d*e).l v+1).toNat 0).length=((d*e).deg v+1).toNat:=by rw[List.length_replicate];rfl
 obtain⟨L,hL⟩:∃L,L=((d*e).deg v+1).toNat:=⟨_,rfl⟩;rw[<-hL]at b
 obtain⟨O,h2⟩:=Jy (N:=N) hv hx (d*e).v.nat he J λm hm=>by rw[b];have:=eU hm v;have h':(d*e).deg v=aD (d*e).l v:=rfl;have:=Ex.nat_get ((d*e).v.nat m hm) v;omega
 rw[b]at O h2
 have hz:∀i,c (N:Rat)*(ja v t 4 (d*e)).co v i=c ((cS N v t i (d*e).l:Int):Rat):=λi=>by rw[TV v t i hv,lX,TR v t hv,UL J]
 have a0:∀i,L<=i->x.getD i 0=0:=λi q=>by rw[List.getD_eq_getElem?_getD,List.getElem?_eq_none oM];rfl
 have R:∀i,L<=i->(ja v t 4 (d*e)).co v i=0:=λi q=>co_above (by
  have:=uA v t hv 4 (Nat.le_refl _) (p:=d*e) (u:=v) (d:=((d*e).deg v).toNat) hv oM;omega)
 have W:∀y∈x,y<pr:=uV hx λy hy=>by rw[(List.mem_replicate.1 hy).2];decide
 have a7:x≠[]:=λh=>by rw[h]at O;simp at O;omega
 have n:x.getD (x.length-1) 0≠0:=of_decide_eq_true hf
 -- the congruence of polynomials
 have ⟨k,S⟩:∃k:Nat->Int,∀i,i<L->(N:Int)*x.getD i 0=cS N v t i (d*e).l+2147483647*k i :=
  ⟨λi=>((N:Int)*x.getD i 0-cS N v t i (d*e).l)/2147483647,λi q=>by
   obtain⟨k,S⟩:=h2 i q;rw[Dt]at S
   simp only[S];omega⟩
 have G:c (N:Rat)*qB v x=c (N:Rat)*ja v t 4 (d*e)+c (pr:Rat)*cK (λi=>c (k i:Rat)*xk v i) L:=LJ v λi=>by
  have hK:(cK (λi=>c (k i:Rat)*xk v i) L).co v i=if i<L then c (k i:Rat)else 0:=by
   rw[rT];split
   ·rename_i hj;rw[pR _ hj λj _ q=>by rw[co_mul_fr (nX _ _),fH,if_neg (Ne.symm q)];grind];rw[co_mul_fr (nX _ _),fH,if_pos rfl];grind
   ·rename_i hj;rw[dF (g:=λ_=>0) λj hj=>by rw[co_mul_fr (nX _ _),fH,if_neg oM];grind,mV]
  rw[co_add,co_mul_fr (nX _ _),co_mul_fr (nX _ _),co_mul_fr (nX _ _),hK,nN];rcases Nat.lt_or_ge i L with q|q
  ·rw[if_pos q,hz,lX,lX,<-UM];congr 1;have:=congrArg (λz:Int=>(z:Rat)) (S i q);simp only[Rat.intCast_add,Rat.intCast_mul,Rat.intCast_natCast]at this;rw[this,jm];rfl
  ·rw[if_neg oM,R i q,a0 i q];have e1:c ((0:Nat):Rat)=0:=rfl;rw[e1];grind
 obtain⟨M,K,a1⟩:=YQ I
 have a4:TU v (ja v t 4 D) x:=by
  refine⟨c (M:Rat)*ja v t 4 E,c (M:Rat)*cK (λi=>c (k i:Rat)*xk v i) L-c (K:Rat)*qB v x,jd (vY 1 _) (xU v t 4 iE),CB (jd (vY 1 _) (xJ λi _=>jd (vY 1 _) (Ns v i))) (jd (vY 1 _) (RN v x)),?_⟩
  have h3:c (N:Rat)*c (M:Rat)=1+c (pr:Rat)*c (K:Rat):=by rw[lX,lX,<-zR,<-UM];congr 1;have:=congrArg (λz:Int=>(z:Rat)) a1;simp only[Rat.intCast_add,Rat.intCast_mul,Rat.intCast_natCast]at this;exact this
  have h4:c (M:Rat)*(c (N:Rat)*qB v x)=c (M:Rat)*(ja v t 4 D*ja v t 4 E+c (pr:Rat)*cK (λi=>c (k i:Rat)*xk v i) L):=by rw[G,s]
  grind
 have o:¬Dh pr ((c (N:Rat)*ja v t 4 (d*e)).co v (L-1)):=λ⟨Y,iY,eY⟩=>by
  rw[co_mul_fr (nX _ _),hz]at eY;have h3:=congrArg (λg:MP=>cf g.l e0) eY
  have a2:∀r:Rat,cf (c r).l e0=r:=λr=>by
   show cf (bZ r) e0=r;unfold bZ;split
   ·rename_i h;rw[h];rfl
   ·rw[bJ,jq,if_pos rfl];exact Rat.add_zero _
  simp only[qy,a2]at h3;obtain⟨y,hy⟩:=iD (EY iY e0);rw[hy,<-Rat.intCast_natCast,<-Rat.intCast_mul]at h3;have h4:=Rat.intCast_inj.1 h3;have h5:=S (L - 1) oM
  have h6:pr∣N*x.getD (L-1) 0:=by refine Int.ofNat_dvd.1 ⟨y+k (L-1),?_⟩;rw[Int.natCast_mul,h5,h4,jm,Int.mul_add];rfl
  rcases Dl Dn h6 with h7|h7
  ·exact I h7
  ·rw[O]at n;have h8:=Nat.le_of_dvd (Nat.pos_of_ne_zero n) h7
   have h9:x.getD (L-1) 0<pr:=by rw[List.getD_eq_getElem?_getD,List.getElem?_eq_getElem (by omega:L-1<x.length)];exact W _ (List.getElem_mem _)
   omega
 have F:c (N:Rat)*ja v t 4 (d*e)≠0:=λh=>o (by rw[h];exact uy pr)
 have a5:(L-1:Nat)<=(c (N:Rat)*ja v t 4 (d*e)).deg v:=by
  rcases Int.lt_or_le ((c (N:Rat)*ja v t 4 (d*e)).deg v) (L - 1:Nat)with h|h
  ·exact absurd (by rw[co_above h];exact uy pr) o
  ·exact h
 have B:ja v t 4 D≠0:=λh=>F (by rw[s,h];grind);have C:ja v t 4 E≠0:=λh=>F (by rw[s,h];grind);have ac:D.deg v=d.deg v:=by rw[hD,deg_mul (wF Z) d0,uf (nX _ _) (wF Z)];omega
 have al:E.deg v=e.deg v:=by have X:c ((N:Rat)*r⁻¹)≠0:=wF (jr (jE a3) λh=>by have:=Rat.mul_inv_cancel _ Z;rw[h]at this;grind);rw[hE,deg_mul X H,uf (nX _ _) X];omega
 have ag:=deg_mul d0 H v;have ad:=uA v t hv 4 (Nat.le_refl _) (p:=D) (u:=v) (d:=(D.deg v).toNat) hv oM;have aa:=uA v t hv 4 (Nat.le_refl _) (p:=E) (u:=v) (d:=(E.deg v).toNat) hv oM;have an:=deg_pos d0 v;have ab:=deg_pos H v;rw[s,deg_mul B C]at a5;have a8:(ja v t 4 D).deg v=d.deg v:=oM;refine⟨⟨a4,λ_=>n,W⟩,a7,xU v t 4 hp.1,λa6=>o ?_,a8⟩;have:L-1=((ja v t 4 D).deg v).toNat+((ja v t 4 E).deg v).toNat:=oM;rw[s,this,vL v B C];exact Ni a6 (UN (xU v t 4 iE) _ _)
theorem Fv{v t:Nat}(hv:v<4){a b d:MP}(ha:a≠0)(hb:b≠0)(s:∀m∈a.l,∀w,m.1.get w<18446744073709551616)(u:∀m∈b.l,∀w,m.1.get w<18446744073709551616)(h:d∣a)(q:d∣b){x y:List Nat}
  (D:iV a.l v t=some x) (o:il (some x)=true) (C:iV b.l v t=some y) (p:il (some y)=true) {n:Nat} (j:mZ x y=some n):d.deg v+1<=n:=by
 obtain⟨r,z,hp⟩:=Rx (dvd_ne ha h);have e:=RS hv ha s z hp h D o;have k:=RS hv hb u z hp q C p
 have key:∃l,Gd v (ja v t 4 (c r*d)) l/\l≠[]/\l.length=n:=by
  unfold mZ at j;split at j
  ·exact Gd.share j k.g e.g k.ne
  ·exact Gd.share j e.g k.g e.ne
 obtain⟨l,F,B,E⟩:=key;have:=F.len B e.i e.l;rw[e.dg,E]at this;omega
theorem uB{v:Nat}(hv:v<4){a b d:MP}(ha:a≠0)(hb:b≠0)(j:∀m∈a.l,∀w,m.1.get w<18446744073709551616)(o:∀m∈b.l,∀w,m.1.get w<18446744073709551616)(i:d∣a)(e:d∣b) :
  ∀{l:List Nat}{m:Int},jR a.l b.l v l=some m->d.deg v<=m
 | [],m,h=>by simp only[jR,Option.some.injEq]at h;have s:=dvd_deg ha i v;have r:=dvd_deg hb e v;have e1:a.deg v=aD a.l v:=rfl;have u:b.deg v=aD b.l v:=rfl;omega
 | k::l,m,h=>by
  rw[jR]at h;split at h
  ·rename_i x y q p;split at h
   ·rename_i hf;rw[Bool.and_eq_true]at hf
    cases hs:mZ x y with
    | none=>rw[hs]at h;cases h
    | some n =>
     rw[hs]at h;have h:some ((n:Int)-1)=some m:=h;have h:=Option.some.inj h;have:=Fv hv ha hb j o i e q hf.1 p hf.2 hs;omega
   ·exact uB hv ha hb j o i e h
  ·exact uB hv ha hb j o i e h
theorem JC{b:List Nat}(hb:b≠[])(p:Tp b)(hm:∀x∈b,x<pr):∀(n:Nat)(r:List Nat),r.length<n->(∀x∈r,x<pr)->∃x,kU b (jA (b.getD (b.length-1) 0) (pr-2)) n r=some x/\x.length<b.length
 | 0,_,h,_=>by omega
 | n+1,r,h,hr=>by
  rw[kU];have E:=List.length_pos_iff.2 hb;split
  ·rename_i kL;obtain⟨f,hf⟩:∃f,f=r.getD (r.length - 1) 0*jA (b.getD (b.length - 1) 0) (pr - 2)%pr:=⟨_,rfl⟩;rw[<-hf]
   have F:(strip (fC b r f (r.length-b.length) b.length)).length<r.length:=by
    have C:=RP (l:=fC b r f (r.length-b.length) b.length) (λe=>by have:=qY b r f (r.length-b.length) b.length;rw[e]at this;simp at this;omega) (by
     rw[qY,zq b.length oM,if_pos oM,(oM:r.length - 1 - (r.length - b.length)=b.length - 1)];have k:=p hb;obtain⟨y,q⟩:∃y,y=b.getD (b.length - 1) 0:=⟨_,rfl⟩;have m:y<pr:=by rw[q,List.getD_eq_getElem?_getD,List.getElem?_eq_getElem (by omega:b.length - 1<b.length)];exact hm _ (List.getElem_mem _)
     rw[<-q]at k hf ⊢;obtain⟨z,hz⟩:∃z,z=r.getD (r.length - 1) 0:=⟨_,rfl⟩;rw[<-hz]at hf ⊢;have s:=LH (Nat.pos_of_ne_zero k) m;obtain⟨i,o⟩:∃i,i=jA y (pr - 2):=⟨_,rfl⟩;rw[<-o]at s hf;have c1:=Cg.mod (z*i);rw[<-hf]at c1;have c2:=Cg.mod (i*y);rw[s]at c2
     have D:Cg ((z+(pr-y)*f:Nat):Int) 0:=by
      rw[Int.natCast_add,Int.natCast_mul,Int.ofNat_sub oM];obtain⟨B,j⟩:=c1;obtain⟨u,d⟩:=c2;rw[Int.natCast_mul]at j d;refine⟨f - y*B+z*u,?_⟩;rw[jm];have e1:(y:Int)*f=y*(z*i+2147483647*B):=by rw[j]
      have G:(z:Int)=z*(i*y+2147483647*u):=by rw[<-d];omega
      grind
     exact Nat.mod_eq_zero_of_dvd (Int.ofNat_dvd.1 (by rw[jm];exact D.zero)))
    rw[qY]at C;exact C
   exact JC hb p hm n _ oM (zo (uU hr _))
  ·exact⟨r,rfl,oM⟩
theorem Gd.tp_rest{b:List Nat}(inv:Nat):∀{n:Nat}{r x:List Nat},kU b inv n r=some x->Tp r->(∀y∈r,y<pr)->Tp x/\∀y∈x,y<pr
 | 0,_,_,h,_,_=>by cases h
 | n+1,r,x,h,hr,hm=>by
  rw[kU]at h;split at h
  ·exact Gd.tp_rest inv h (xW _) (zo (uU hm _))
  ·simp only[Option.some.injEq]at h;subst h;exact⟨hr,hm⟩
theorem wG:∀(n:Nat)(a b:List Nat),b.length<n->a.length<fuel->b.length<fuel->Tp a->Tp b->(∀x∈a,x<pr)->(∀x∈b,x<pr)->∃k,gY n a b=some k
 | 0,_,_,h,_,_,_,_,_,_=>by omega
 | n+1,a,b,h,ha,hb,ta,tb,ma,mb=>by
  rw[gY];split
  ·exact⟨_,rfl⟩
  ·rename_i e;obtain⟨x,i,j⟩:=JC e tb mb fuel a ha ma;have d:=Gd.tp_rest _ i ta ma;rw[i];exact wG n b x oM hb oM tb d.1 mb d.2
theorem AU{a:List ai}{v t:Nat}{x:List Nat}(h:iV a v t=some x):x.length=(aD a v+1).toNat:=by
 have key:∀{l:List ai}{out x:List Nat},jo v t l out=some x->x.length=out.length:=by
  intro l
  induction l with
  | nil=>intro out x h;simp only[jo,Option.some.injEq]at h;subst h;rfl
  | cons m l b =>
   intro out x h;rw[jo]at h;split at h
   ·cases h
   ·rw[b h,List.length_set]
 rw[key h,List.length_replicate]
theorem sH{a b:List ai}{v:Nat}(ha:aD a v+1<fuel)(hb:aD b v+1<fuel):∀l,∃m,jR a b v l=some m
 | []=>⟨_,rfl⟩
 | k::l=>by
  rw[jR];split
  ·rename_i x y e d;split
   ·rename_i hf;rw[Bool.and_eq_true]at hf;have o:=AU e;have p:=AU d;have i:Tp x:=λ_=>of_decide_eq_true hf.1;have ty:Tp y:=λ_=>of_decide_eq_true hf.2;have j:∀z∈x,z<pr:=uV e λy d=>by rw[(List.mem_replicate.1 d).2];decide
    have h:∀z∈y,z<pr:=uV d λy d=>by rw[(List.mem_replicate.1 d).2];decide
    have q:0<fuel:=dM
    have key:∃n,mZ x y=some n:=by
     unfold mZ;split
     ·exact wG fuel y x oM oM oM ty i h j
     ·exact wG fuel x y oM oM oM i ty j h
    obtain⟨n,r⟩:=key;rw[r];exact⟨_,rfl⟩
   ·exact sH ha hb l
  ·exact sH ha hb l
end Q
end
section
namespace Q
open MP Go.Proofs.YtopclbeomcggiaaGreat
theorem zu(D:List (List ai)):∀(f:Nat)(R:List (List ai)),R.length<=D.length-1+f->(gm D f R).length<=max (D.length-1) 0
 | 0,R,h=>by simp only[gm];omega
 | f+1,R,h=>by
  unfold gm;by_cases b:D.length-1<R.length
  ·rw[if_pos b];exact zu D f _ (by rw[gX];omega)
  ·rw[if_neg b];omega
def TW (v:Nat) (L:List (List ai)):Prop:=∀c∈L,∀t∈c,t.1.get v=0
theorem TW.get{v:Nat}{L:List (List ai)}(h:TW v L)(i:Nat):∀t∈L.getD i [],t.1.get v=0:=by
 rw[List.getD_eq_getElem?_getD]
 cases hi:L[i]? with
 | none=>intro t b;cases b
 | some c=>exact h c (List.mem_of_getElem? hi)
theorem GR{v:Nat}{p q:List ai}(hp:∀t∈p,t.1.get v=0)(hq:∀t∈q,t.1.get v=0):∀t∈aX p q,t.1.get v=0 :=
 lm (P:=λe=>e.get v=0) λt d=>by obtain⟨a,ha,b,hb,rfl⟩:=mM d;show(a.1.add b.1).get v=0;rw[Ex.get_add,hp a ha,hq b hb];rfl
theorem TY{v:Nat}{p q:List ai}(hp:∀t∈p,t.1.get v=0)(hq:∀t∈q,t.1.get v=0):∀t∈gH p q,t.1.get v=0 :=
 lm (P:=λe=>e.get v=0) λt b=>by
  rcases List.mem_append.1 b with h|h
  ·exact hp t h
  ·obtain⟨s,d,rfl⟩:=yY h;exact hq s d
theorem Pe{v:Nat}{D R:List (List ai)}(b:TW v D)(d:TW v R):TW v (fO D R):=λc hc=>by
 simp only[fO,List.mem_map]at hc;obtain⟨i,-,rfl⟩:=hc;split
 ·exact TY (GR (d.get _) (b.get _)) (GR (d.get _) (b.get _))
 ·exact GR (d.get _) (b.get _)
theorem Dw{v:Nat}{D:List (List ai)}(b:TW v D):∀(f:Nat)(R:List (List ai)),TW v R->TW v (gm D f R)
 | 0,_,h=>h
 | f+1,R,h=>by unfold gm;split;exact Dw b f _ (Pe b h);exact h
theorem Fw(p:List ai)(v:Nat):TW v (aA p v):=λc hc t b=>by obtain⟨n,rfl⟩:=eu hc;obtain⟨u,_,rfl⟩:=List.mem_map.1 b;exact Ex.get_put _ _ _
theorem wH{p:List ai}(h:bR p)(v:Nat):Al (aA p v):=λc hc=>by obtain⟨n,rfl⟩:=eu hc;exact h.coeff v n
def nY (v:Nat) (a b:MP):MP:=⟨tu (gm (aA b.l v) (aA a.l v).length (aA a.l v)) v,fA _⟩
theorem RU{a b:MP}{v:Nat}{r:List ai}(h:Sw a.l b.l v=some r):r=(nY v a b).l/\b≠0:=by
 unfold Sw at h;simp only at h;split at h
 ·rename_i hc;exact⟨(jP h).1,λe=>hc.1 (by rw[e];rfl)⟩
 ·cases h
theorem LK(x:Pt)(v:Nat){L:List (List ai)}(h:Al L):ev x (tu L v)=Q4 x v L:=FR x v λc hc=>(h c hc).nat
theorem Fx{a b:MP}(hb:b≠0)(v:Nat):∃(q:MP)(s:Nat),(b.lc v)^s*a=q*b+nY v a b/\(nY v a b).deg v<=b.deg v-1:=by
 have k:=wH b.v v;have j:=wH a.v v;have p:=deg_pos hb v;have d:(aA b.l v).length=(b.deg v).toNat+1:=by rw[dS];have e:aD b.l v=b.deg v:=rfl;omega
 have kL:(aA a.l v).length<=(aA b.l v).length-1+(aA a.l v).length:=oM;refine⟨⟨zX v (aA b.l v) (aA a.l v).length (aA a.l v),E8 _ _ _ _⟩,(aA a.l v).length-((aA b.l v).length-1),MP.ext' λx=>?_,?_⟩
 ·have h:=M8 x v k oM (aA a.l v).length (aA a.l v) j kL;have n:Q4 x v (aA a.l v)=ev x a.l:=by rw[<-LK x v j,zL a.v]
  have o:Q4 x v (aA b.l v)=ev x b.l:=by rw[<-LK x v k,zL b.v]
  have r:Q4 x v (gm (aA b.l v) (aA a.l v).length (aA a.l v))=MP.ev x (nY v a b):=(LK x v (za _ _ _ j)).symm
  have el:ev x ((aA b.l v).getD ((aA b.l v).length-1) [])=MP.ev x (b.lc v):=by rw[d,Nat.add_sub_cancel,zK (by have e:aD b.l v=b.deg v:=rfl;omega)];rfl
  rw[n,o,r,el]at h;rw[MP.ev_add,MP.ev_mul,MP.ev_mul,MP.ev_pow];show _*ev x a.l=ev x (zX v (aA b.l v) _ _)*ev x b.l+_;grind
 ·obtain⟨L,hL⟩:∃L,L=gm (aA b.l v) (aA a.l v).length (aA a.l v):=⟨_,rfl⟩;have y:=zu (aA b.l v) (aA a.l v).length (aA a.l v) kL;have hf:=Dw (Fw b.l v) (aA a.l v).length (aA a.l v) (Fw a.l v);have hv:=za (aA b.l v) (aA a.l v).length (aA a.l v) j
  have e:nY v a b=cK (λi=>⟨(gm (aA b.l v) (aA a.l v).length (aA a.l v)).getD i [],hv.get i⟩*xk v i) (gm (aA b.l v) (aA a.l v).length (aA a.l v)).length:=MP.ext' λx=>by rw[FV];show ev x (tu _ v)=_;rw[FR x v λc hc=>(hv c hc).nat];refine lL λi _=>?_;rw[MP.ev_mul,ev_xk];rfl
  rw[e];refine pU oM λi u=>?_;have m:(⟨(gm (aA b.l v) (aA a.l v).length (aA a.l v)).getD i [],hv.get i⟩:MP).fr v:=Uu (hf.get i);have z:=bT v _ (xk v i) m (Int.le_of_eq (deg_xk v i)) oM;omega
theorem zw{b g:List ai}{gt:ai}(hb:bR b)(hg:b=gt::g):∀{n:Nat}{a out res:List ai},bR a->dO out->qU b gt n a out=some (some res)->dO res/\∀x,ev x res*ev x b=ev x out*ev x b+ev x a
 | 0,_,_,_,_,_,h=>by simp[qU]at h
 | n+1,[],out,res,_,ho,h=>by simp only[qU,Option.some.injEq]at h;subst h;exact⟨ho,λx=>by rw[jf];grind⟩
 | n+1,m::a,out,res,ha,ho,h=>by
  rw[qU]at h;split at h
  ·split at h
   ·rename_i j;split at h
    ·have hq:dO [gI m gt]:=λt e=>by rw[List.mem_singleton.1 e];exact j
     obtain⟨i,d⟩:=zw hb hg (bR.sub _ _) (ho.append hq) h;refine⟨i,λx=>?_⟩;rw[d x,oN,Q.ev_sub x ha.nat (bR.mul _ _),Q.ev_mul x hb.nat hq];grind
    ·cases h
   ·cases h
  ·cases h
theorem Fy{b g:List ai}{gt:ai}(hb:bR b)(hg:b=gt::g):∀{n:Nat}{a out:List ai},bR a->qU b gt n a out=some none->∀q,bR q->a≠aX q b
 | 0,_,_,_,h=>by simp[qU]at h
 | n+1,[],out,_,h=>by simp[qU]at h
 | n+1,m::a,out,ha,h=>by
  intro q hq e;subst hg;have hz:=(hb.2 gt sM).1
  cases q with
  | nil=>cases e
  | cons x s =>
   have j:=hq.2 x sM;obtain⟨r,o⟩:=AO hq hb;obtain⟨a',d⟩:=AL (bR.mul _ _) (jr j.1 hz) r o;rw[d]at e;have p:m=(x.1.add gt.1,x.2*gt.2):=(List.cons.inj e).1;have i:gI m gt=x:=by rw[p];exact Cx hz
   have l:(m.1.sub gt.1).nat=true:=by
    have:(gI m gt).1=x.1:=by rw[i]
    show(gI m gt).1.nat=true;rw[this];exact j.2
   rw[qU]at h;split at h
   ·split at h
    ·have k:=Cy hq hb bR.nil;have e0:oZ (aX (x::s) (gt::g)) []=aX (x::s) (gt::g):=yt (bR.add _ _) (bR.mul _ _) λy=>by rw[Q.ev_add y (bR.mul _ _).nat dO.nil,jf];grind
     have e1:oZ (aX s (gt::g)) []=aX s (gt::g):=yt (bR.add _ _) (bR.mul _ _) λy=>by rw[Q.ev_add y (bR.mul _ _).nat dO.nil,jf];grind
     rw[e0,e1]at k;refine Fy hb rfl (bR.sub _ _) h s hq.tail ?_;rw[i,e,<-d,k]
    ·cases h
   ·cases h
theorem Dx{a b q:MP}{r:List ai}(hb:b≠0)(e:a=q*b)(h:iO a.l b.l=some r):r=q.l:=by
 obtain⟨t,l,d⟩:=je hb;unfold iO ze at h;rw[d]at h;simp only at h;split at h
 ·rename_i o k
  cases o with
  | none=>exact absurd (show a.l=aX q.l (t::l) by rw[<-d];exact congrArg MP.l e) (Fy (d▸b.v) rfl a.v k q.l q.v)
  | some i =>
   obtain⟨s,m⟩:=zw (d▸b.v) rfl a.v dO.nil k;obtain⟨j,n⟩:=jP h;have j:r=i:=j;subst j;have hv:bR r:=n.val
   have:(⟨r,hv⟩:MP)*b=q*b:=MP.ext' λx=>by rw[MP.ev_mul,<-e];have:=m x;rw[jf,<-d]at this;show ev x r*ev x b.l=ev x a.l;grind
   have p:b*(⟨r,hv⟩:MP)=b*q:=gR;exact congrArg MP.l (MP.cancel hb p)
 ·cases h
def hd (a:MP):Rat:=match a.l with
 | []=>0
 | t::_=>t.2
def nrm (a:MP):MP:=c (1/hd a)*a
theorem vF{a:MP}(h:a≠0):hd a≠0:=by obtain⟨t,l,e⟩:=je h;have:=(a.v.2 t (by rw[e];simp)).1;unfold hd;rw[e];exact this
theorem sI{r:Rat}(b:r≠0)(a:MP):hd (c r*a)=hd a*r:=by
 unfold hd;rw[sF];show(match bN a.l r with|[]=>0|t::_=>t.2)=_;unfold bN;rw[if_neg b]
 cases a.l with
 | nil=>simp
 | cons t l=>rfl
theorem nk{a:MP}(h:a≠0):hd (nrm a)=1:=by
 have b:=vF h
 have d:(1:Rat)/hd a≠0:=λe=>by have:=Rat.div_mul_cancel (a:=1) b;rw[e]at this;grind
 rw[nrm,sI d];have:=Rat.div_mul_cancel (a:=1) b;grind
theorem jJ:nrm 0=0:=by rw[nrm];grind
theorem fF{a:MP}(h:a≠0):nrm a∣a/\a∣nrm a:=by
 have b:=vF h;refine⟨⟨c (hd a),?_⟩,⟨c (1/hd a),by rw[nrm];grind⟩⟩;have d:c (1/hd a)*c (hd a)=1:=by rw[lX,Rat.div_mul_cancel b];rfl
 rw[nrm];grind
theorem xX{a:MP}{r:List ai}(h:jQ a.l=some r):r=(nrm a).l:=by
 cases e:a.l with
 | nil =>
  rw[e]at h;simp only[jQ,Option.some.injEq]at h;rw[zero_iff.2 e,jJ,<-h];rfl
 | cons t l =>
  rw[e]at h;simp only[jQ]at h;rw[(jP h).1,nrm,sF];have:hd a=t.2:=by unfold hd;rw[e]
  rw[this];show _=bN a.l (1/t.2);rw[e]
theorem LM{a b:MP}(ha:a≠0)(h:a∣b)(d:b∣a)(n1:hd a=1)(n2:hd b=1):a=b:=by obtain⟨u,rfl⟩:=h;have hu:=unit_cancel ha d;obtain⟨r,rfl⟩:=jX (Qo hu);have i:r≠0:=λe=>Ga hu (by rw[e];rfl);have e:a*c r=c r*a:=gR;rw[e,sI i,n1]at n2;have:r=1:=gR;rw[this,zR];grind
structure NG (g a b:MP):Prop where
 i:lC g a b
 n:g≠0->hd g=1
theorem sJ:Gy=(1:MP).l:=by show [(e0,(1:Rat))]=bZ ((1:Nat):Rat);rw[show((1:Nat):Rat)=1 from rfl,bZ,if_neg dM]
theorem jF(a b:MP):a*b=b*a:=gR
theorem uC:hd 1=1:=by unfold hd;rw[<-sJ];rfl
theorem wI{a b:MP}(h:a.unit\/b.unit):lC 1 a b :=
 ⟨unit_dvd unit_one a,unit_dvd unit_one b,λd e i=>h.elim (λh=>unit_of_dvd e h) λh=>unit_of_dvd i h⟩
theorem uW{g a b:MP}(h:lC g a b)(i:g≠0):lC (nrm g) a b:=by obtain⟨e,j⟩:=fF i;exact⟨dvd_trans e h.l,dvd_trans e h.r,λd x y=>dvd_trans (h.u d x y) j⟩
theorem RV{g:MP}(h:g≠0):nrm g≠0:=dvd_ne h (fF h).1
theorem JD{g a b:MP}(h:lC g a b)(d:a≠0):g≠0:=dvd_ne d h.l
theorem uD{g:MP}(h:kY g.l=true):g.unit:=by
 obtain⟨l,v⟩:=g
 cases l with
 | nil=>cases h
 | cons t l =>
  cases l with
  | cons _ _=>cases h
  | nil =>
   have he:t.1=e0:=of_decide_eq_true h
   have:(⟨[t],v⟩:MP)=c t.2:=MP.eq_of (by
    show [t]=bZ t.2
    rw[bZ,if_neg (v.2 t sM).1,<-he])
   rw[this];exact yO (v.2 t sM).1
def Nt (G:List ai->List ai->Option (List ai)):Prop:=∀(a b:MP)(r:List ai),G a.l b.l=some r->∃g:MP,r=g.l/\NG g a b
theorem Nu{G:List ai->List ai->Option (List ai)}(q:Nt G):∀(L:List (List ai))(b:MP)(r:List ai),Al L->(b≠0->hd b=1)->ut G b.l L=some r ->
  ∃g:MP,r=g.l/\g∣b/\(∀(f:MP),f.l∈L->g∣f)/\(∀d,d∣b->(∀f:MP,f.l∈L->d∣f)->d∣g)/\(g≠0->hd g=1)
 | [],b,r,_,hn,h=>by simp only[ut,Option.some.injEq]at h;exact⟨b,h.symm,dvd_refl _,λf hf=>(by cases hf),λd h _=>h,hn⟩
 | a::L,b,r,hv,hn,h=>by
  rw[ut]at h;have ha:bR a:=hv a sM;split at h
  ·cases h
  ·rename_i y m;obtain⟨g,rfl,hg⟩:=q b ⟨a,ha⟩ y m;have o:∀f:MP,f.l=a->f=⟨a,ha⟩:=λf e=>MP.eq_of e;split at h
   ·rename_i hc;simp only[Option.some.injEq]at h;have hu:=uD hc;refine⟨g,h.symm,hg.i.l,λf _=>unit_dvd hu f,λd p j=>hg.i.u d p (j ⟨a,ha⟩ sM),hg.n⟩
   ·obtain⟨k,e,s,B,x,z⟩:=Nu q L g r (λc hc=>hv c (by simp[hc])) hg.n h;refine⟨k,e,dvd_trans s hg.i.l,λf hf=>?_,λd p j=>x d (hg.i.u d p (j ⟨a,ha⟩ sM)) λf hf=>j f (by simp[hf]),z⟩;rcases List.mem_cons.1 hf with e|hf
    ·rw[o f e];exact dvd_trans s hg.i.r
    ·exact B f hf
theorem qi{G:List ai->List ai->Option (List ai)}(o:Nt G){a:MP}{v:Nat}{r:List ai}(h:mD G a.l v=some r):∃g:MP,r=g.l/\tZ v g a/\(g≠0->hd g=1):=by
 obtain⟨g,e,s,m,k,p⟩:=Nu o _ (0:MP) r (wH a.v v) (λh=>absurd rfl h) h
 have b:∀n,g∣a.co v n:=λn=>by
  rcases Nat.lt_or_ge n (aD a.l v+1).toNat with i|i
  ·refine m _ ?_;show aN a.l v n∈aA a.l v;exact List.mem_map.2 ⟨n,List.mem_range.2 i,rfl⟩
  ·rw[co_above (by have e:a.deg v=aD a.l v:=rfl;have:=deg_ge v a;omega)];exact dvd_zero g
 have hf:g.fr v:=by
  by_cases ha:a=0
  ·have:g=0:=by
    have q:=k 0 (dvd_refl 0) λf hf=>by rw[ha]at hf;cases hf
    exact zero_dvd q
   rw[this];exact oC v
  ·exact rP (lc_ne ha v) (b _) (lc_fr v a)
 refine⟨g,e,⟨hf,(dvd_iff_co hf a).2 b,λd hd j=>k d (dvd_zero d) λf hf=>?_⟩,p⟩;obtain⟨n,i⟩:=eu hf;have:f=a.co v n:=MP.eq_of i;rw[this];exact(dvd_iff_co hd a).1 j n
theorem RX{G:List ai->List ai->Option (List ai)}(j:Nt G){a:MP}{v:Nat}{r:List ai}(d:a≠0)(h:kT G a.l v=some r):∃c q:MP,r=q.l/\a=c*q/\c≠0/\c.fr v/\q.prim v:=by
 obtain⟨t,l,i⟩:=je d;unfold kT at h;rw[i]at h;simp only at h;rw[<-i]at h;split at h
 ·cases h
 ·rename_i c0 hc;obtain⟨g,rfl,hg,_⟩:=qi j hc;obtain⟨q,e,hq,b⟩:=jh hg d;exact⟨g,q,Dx (q:=q) b (e.trans (jF g q)) h,e,b,hg.f,hq⟩
theorem uX{v:Nat}(hv:v<4){b:MP}(hb:b.lo (v+1)):∀s:Nat,((b.lc v)^s).lo v
 | 0=>by have e:(b.lc v)^0=1:=gR;rw[e];exact BV v
 | s+1=>by have e:(b.lc v)^(s+1)=(b.lc v)^s*b.lc v:=gR;rw[e];exact kW (uX hv hb s) (zQ hv hb)
theorem GU{b:MP}(hb:b≠0):∀s:Nat,b^s≠0
 | 0=>by have e:b^0=1:=gR;rw[e];exact one_ne
 | s+1=>by have e:b^(s+1)=b^s*b:=gR;rw[e];exact mul_ne (GU hb s) hb
theorem qj{n:Nat}{a b c:MP}(hb:b≠0)(hc:c≠0)(e:a=b*c)(h:a.lo n):c.lo n:=iw (by rw[e];exact mul_ne hb hc) (by rw[e];exact dvd_mul_left _ _) h
theorem LP{n:Nat}{a:MP}(h:a.lo n):(nrm a).lo n:=by
 by_cases b:a=0
 ·rw[b,jJ];exact MF n
 ·exact iw b (fF b).1 h
theorem TZ{v:Nat}(hv:v<4){a b q:MP}{s:Nat}(e:(b.lc v)^s*a=q*b+nY v a b)(z:b≠0)(ha:a.lo (v+1))(hb:b.lo (v+1)):(nY v a b).lo (v+1):=λw y k=>by
 -- the pseudo-remainder is made of the coefficients by ring operations
 have r:∀L:List (List ai),(∀c∈L,∀t∈c,t.1.get w=0)->∀D:List (List ai),(∀c∈D,∀t∈c,t.1.get w=0)->∀f,∀c∈gm D f L,∀t∈c,t.1.get w=0:=λL hL D m f=>Dw (v:=w) m f L hL
 have j:∀p:MP,p.lo (v+1)->∀c∈aA p.l v,∀t∈c,t.1.get w=0:=λp hp c hc t d=>by obtain⟨n,rfl⟩:=eu hc;obtain⟨u,hu,rfl⟩:=List.mem_map.1 d;show(u.1.put v 0).get w=0;rw[Ex.get_put_ne _ hv k oM];exact fr_get (hp w y k) (List.mem_filter.1 hu).1
 have x:=r _ (j a ha) _ (j b hb) (aA a.l v).length;refine Uu ?_
 have hL:∀(L:List (List ai))(i:Nat),(∀c∈L,∀t∈c,t.1.get w=0)->∀t∈fromL v i L,t.1.get w=0:=λL=>by
  induction L with
  | nil=>intro i _ t d;cases d
  | cons c L o =>
   intro i h t d;simp only[fromL,List.mem_append]at d;rcases d with d|d
   ·obtain⟨u,hu,rfl⟩:=List.mem_map.1 d;show(u.1.put v _).get w=0;rw[Ex.get_put_ne _ hv k oM];exact h c sM u hu
   ·exact o (i+1) (λc hc=>h c (by simp[hc])) t (by simpa using d)
 exact lm (P:=λe=>e.get w=0) (hL _ 0 x)
theorem JE{G:List ai->List ai->Option (List ai)}(O:Nt G){v:Nat}(hv:v<4):∀(n:Nat)(a b:MP)(r:List ai),a.lo (v+1)->b.lo (v+1)->a.prim v->b.prim v->qV G v n a.l b.l=some r->∃s:MP,r=s.l/\lC s a b
 | 0,_,_,_,_,_,_,_,h=>by cases h
 | n+1,a,b,r,la,lb,pa,pb,h=>by
  have M:=yP v oM;have b0:=cZ pb;have a0:=cZ pa;rw[qV]at h;obtain⟨q,s,e,L⟩:=Fx (a:=a) b0 v;have J:=uX hv lb s;have z:=GU (lc_ne b0 v) s;have y:=TZ hv e b0 la lb;have i:∀d:MP,d.prim v->d∣b->d∣nY v a b->d∣a:=λd W o m=>eB M hv la W J z (by rw[e];exact dvd_add (dvd_mul_of' o q) m)
  have hrem:∀d:MP,d∣a->d∣b->d∣nY v a b:=λd o m=>by
   have S:nY v a b=(b.lc v)^s*a-q*b:=by rw[e];grind
   rw[S];exact dvd_sub (dvd_mul_of' o _) (dvd_mul_of' m _)
  split at h
  ·cases h
  ·rename_i hp;have hz:=(RU hp).1;simp only[Option.some.injEq]at h;have j:nY v a b=0:=zero_iff.2 hz.symm;exact⟨b,h.symm,i b pb (dvd_refl b) (by rw[j];exact dvd_zero b),dvd_refl b,λd _ h=>h⟩
  ·rename_i t l hp;have hz:=(RU hp).1;have j:nY v a b≠0:=λX=>by rw[zero_iff.1 X]at hz;cases hz
   split at h
   ·rename_i I;simp only[Option.some.injEq]at h;have Y:(nY v a b).deg v=0:=by show aD (nY v a b).l v=0;rw[<-hz];exact I
    refine⟨1,by rw[<-h,sJ],unit_dvd unit_one a,unit_dvd unit_one b,λd o m=>?_⟩;have hd:=dvd_deg j (hrem d o m) v;exact pb d (by show d.deg v<=0;omega) m
   ·rw[hz]at h;split at h
    ·cases h
    ·rename_i p E;obtain⟨c,Z,rfl,D,c0,cf,hq⟩:=RX O j E;split at h
     ·cases h
     ·rename_i k K;have K:=xX K;subst K;have R:=cZ hq;have N:=qj c0 R D y;obtain⟨C,H⟩:=fF R;obtain⟨x,ex,B⟩:=JE O hv n b (nrm Z) r lb (LP N) pb (jY hq C) h;have F:c.lo v:=pQ (iw j (by rw[D];exact dvd_mul_right _ _) y) cf;refine⟨x,ex,i x (jY pb B.l) B.l ?_,B.l,λd o m=>B.u d m (dvd_trans ?_ H)⟩
      ·rw[D];exact dvd_mul_of' (dvd_trans B.r C) c
      ·exact eB M hv N (jY pb m) F c0 (by rw[<-D];exact hrem d o m)
theorem Nv{G:List ai->List ai->Option (List ai)}(B:Nt G){v:Nat}(hv:v<4){a b:MP}{r:List ai}(wa:Wp a.l)(wb:Wp b.l)(y:a.lo (v+1))(lb:b.lo (v+1))(u:a.prim v)(pb:b.prim v)(h:Am G a.l b.l v=some r):∃s:MP,r=s.l/\lC s a b:=by
 have D:=cZ u;have b0:=cZ pb;have hex:∀p:MP,Wp p.l->∀m∈p.l,∀w,m.1.get w<18446744073709551616:=λp hp m hm w=>by have:=(hp.exps hm w).2;omega
 unfold Am at h;split at h
 ·cases h
 ·rename_i m hm;have q:∀d:MP,d∣a->d∣b->d.deg v<=m:=λd i j=>uB hv D b0 (hex a wa) (hex b wb) i j hm;split at h
  ·rename_i C;simp only[Option.some.injEq]at h;refine⟨1,by rw[<-h,sJ],unit_dvd unit_one a,unit_dvd unit_one b,λd i j=>u d (by have:=q d i j;show d.deg v<=0;omega) i⟩
  ·split at h
   ·cases h
   ·rename_i o z;split at h
    ·rename_i hc;simp only[Option.some.injEq]at h;rw[Bool.and_eq_true]at hc
     cases o with
     | none=>cases hc.1
     | some k =>
      obtain⟨t,l,n⟩:=je b0;have e:=z;unfold ze at e;rw[n]at e;simp only at e;obtain⟨i,j⟩:=zw (n▸b.v) rfl a.v dO.nil e
      have hd:b∣a:=by refine⟨⟨canon k,fA _⟩,MP.ext' λx=>?_⟩;have:=j x;rw[jf,<-n]at this;rw[MP.ev_mul];show ev x a.l=ev x b.l*ev x (canon k);rw[nE i];grind
      exact⟨b,h.symm,hd,dvd_refl b,λd _ h=>h⟩
    ·exact JE B hv _ a b r y lb u pb h
theorem Dy{g a b:MP}(h:lC g a b):lC g b a:=⟨h.r,h.l,λd x y=>h.u d y x⟩
theorem Nw{G:List ai->List ai->Option (List ai)}(j:Nt G){v:Nat}(hv:v<4){a b:MP}{r:List ai}(wa:Wp a.l)(wb:Wp b.l)(i:a.lo (v+1))(lb:b.lo (v+1))(d:a.prim v)(pb:b.prim v)(h:Ef G a.l b.l v=some r):∃s:MP,r=s.l/\lC s a b:=by
 unfold Ef at h;split at h
 ·obtain⟨s,e,k⟩:=Nv j hv wb wa lb i pb d h;exact⟨s,e,Dy k⟩
 ·exact Nv j hv wa wb i lb d pb h
theorem JF(a b:MP):∀(n:Nat),n<=4->(∀w,n<=w->w<4->a.fr w/\b.fr w)->∀v,sO [a.l,b.l] n=some v->v<4/\a.lo (v+1)/\b.lo (v+1)
 | 0,_,_,v,h=>by cases h
 | n+1,hn,hf,v,h=>by
  rw[sO]at h;split at h
  ·simp only[Option.some.injEq]at h;subst h;exact⟨by omega,λw i d=>(hf w i d).1,λw i d=>(hf w i d).2⟩
  ·rename_i hc;refine JF a b n (by omega) (λw i d=>?_) v h;rcases Nat.eq_or_lt_of_le i with e|hlt
   ·subst e;simp only[List.any_cons,List.any_nil,Bool.or_false,Bool.or_eq_true,decide_eq_true_eq,not_or]at hc;exact⟨by show aD a.l n<=0;omega,by show aD b.l n<=0;omega⟩
   ·exact hf w hlt d
theorem JG{a b r:List ai}(h:iO a b=some r):Wp r:=by
 unfold iO at h;split at h
 ·have:=jP h;rw[this.1];exact this.2
 ·cases h
theorem lJ{α b:Type}{o:Option α}{f:α->Option b}{y:b}(h:fD o f=some y):∃x,o=some x/\f x=some y:=by
 cases o with
 | none=>cases h
 | some x=>exact⟨x,rfl,h⟩
theorem Ua{G:List ai->List ai->Option (List ai)}(C:Nt G):Nt (Rc G):=λa b r h=>by
 unfold Rc at h;split at h
 ·rename_i ha;have ha:=zero_iff.2 ha;refine⟨nrm b,xX h,?_,λo=>nk λh0=>o (by rw[h0,jJ])⟩;by_cases hb:b=0
  ·rw[hb,jJ,ha];exact⟨dvd_refl _,dvd_refl _,λd h _=>h⟩
  ·exact⟨by rw[ha];exact dvd_zero _,(fF hb).1,λd _ h=>dvd_trans h (fF hb).2⟩
 ·rename_i ha;have m:a≠0:=λh=>ha (zero_iff.1 h);split at h
  ·rename_i hb;have hb:=zero_iff.2 hb;exact⟨nrm a,xX h,⟨(fF m).1,by rw[hb];exact dvd_zero _,λd h _=>dvd_trans h (fF m).2⟩,λ_=>nk m⟩
  ·rename_i hb;have b0:b≠0:=λh=>hb (zero_iff.1 h);split at h
   ·rename_i hc;simp only[Option.some.injEq]at h;exact⟨1,by rw[<-h,sJ],wI (hc.imp uD uD),λ_=>uC⟩
   ·obtain⟨v,hv,h⟩:=lJ h;obtain⟨I,la,lb⟩:=JF a b 4 oM (λw j B=>oM) v hv;have R:=yP v oM;split at h
    ·rename_i hd;obtain⟨c,hc,h⟩:=lJ h;obtain⟨k,rfl,L,_⟩:=qi C hc;obtain⟨g,e,hg⟩:=C k b r h;have Y:b.fr v:=Int.le_of_eq hd;exact⟨g,e,⟨dvd_trans hg.i.l L.d,hg.i.r,λd j B=>hg.i.u d (L.u d (rP b0 B Y) j) B⟩,hg.n⟩
    ·split at h
     ·rename_i hd;obtain⟨c,hc,h⟩:=lJ h;obtain⟨k,rfl,L,_⟩:=qi C hc;obtain⟨g,e,hg⟩:=C a k r h;have W:a.fr v:=Int.le_of_eq hd;exact⟨g,e,⟨hg.i.l,dvd_trans hg.i.r L.d,λd j B=>hg.i.u d j (L.u d (rP m j W) B)⟩,hg.n⟩
     ·obtain⟨x0,hx,h⟩:=lJ h;obtain⟨y0,hy,h⟩:=lJ h;obtain⟨g0,X,h⟩:=lJ h;obtain⟨p0,hp,h⟩:=lJ h;obtain⟨q0,hq,h⟩:=lJ h;obtain⟨s0,hs,h⟩:=lJ h;obtain⟨m0,hm,h⟩:=lJ h;obtain⟨x,rfl,Z,_⟩:=qi C hx;obtain⟨y,rfl,N,_⟩:=qi C hy;obtain⟨g,rfl,hg⟩:=C x y _ X;obtain⟨p,M,pp,F⟩:=jh Z m;obtain⟨q,eq,pq,E⟩:=jh N b0;have O:=JG hp;have S:=JG hq;have e1:=Dx (q:=p) F (M.trans (jF x p)) hp;have e2:=Dx (q:=q) E (eq.trans (jF y q)) hq;subst e1;subst e2;have lp:=qj F (cZ pp) M la;have lq:=qj E (cZ pq) eq lb;obtain⟨s,rfl,H⟩:=Nw C I O S lp lq pp pq hs;have hm:m0=(g*s).l:=(jP hm).1;subst hm;have lx:x.lo v:=pQ (iw m (by rw[M];exact dvd_mul_right _ _) la) Z.f;have ly:y.lo v:=pQ (iw b0 (by rw[eq];exact dvd_mul_right _ _) lb) N.f
      have D:lC (g*s) a b:=by
       refine⟨by rw[M];exact mul_dvd hg.i.l H.l,by rw[eq];exact mul_dvd hg.i.r H.r,λd j B=>?_⟩;have d0:=dvd_ne m j;obtain⟨e,z,rfl,he,a1,J,lz,_⟩:=jZ R I (iw m j la) d0;have K:e.fr v:=he v (Nat.le_refl _) I;refine mul_dvd (hg.i.u e ?_ ?_) (H.u z ?_ ?_)
       ·exact Z.u e K (dvd_trans (dvd_mul_right _ _) j)
       ·exact N.u e K (dvd_trans (dvd_mul_right _ _) B)
       ·exact eB R I lp J lx F (by rw[<-M];exact dvd_trans (dvd_mul_left _ _) j)
       ·exact eB R I lq J ly E (by rw[<-eq];exact dvd_trans (dvd_mul_left _ _) B)
      have o:=JD D m;exact⟨nrm (g*s),xX h,uW D o,λ_=>nk o⟩
end Q
end
section
namespace Q
open MP
theorem xY{a:MP}{t:ai}{l:List ai}(h:a.l=t::l):hd a=t.2:=by unfold hd;rw[h]
theorem GV{a b:MP}(ha:a≠0)(hb:b≠0):hd (a*b)=hd a*hd b:=by
 obtain⟨s,l,h⟩:=je ha;obtain⟨t,r,d⟩:=je hb;have i:bR (s::l):=h▸a.v;have j:bR (t::r):=d▸b.v;obtain⟨n,k⟩:=AO i j;have hz:=jr (i.2 s sM).1 (j.2 t sM).1;obtain⟨m,hm⟩:=AL (bR.mul _ _) hz n k;have e:(a*b).l=aX (s::l) (t::r):=by show aX a.l b.l=_;rw[h,d]
 rw[xY (e.trans hm),xY h,xY d]
def NC (v:Nat) (g a:MP):Prop:=tZ v g a/\(g≠0->hd g=1)
end Q
end
section
namespace Q
open MP Go.Proofs.YtopclbeomcggiaaGreat
structure qI (D H:Nat) (p:MP):Prop where
 d:p.dv D
 a:(D:Rat)*p.am<=(H:Rat)
def In (b:Nat) (p:MP):Prop:=∃D H,0<D/\D<=2^b/\H<=2^b/\qI D H p
theorem bQ(n:Nat):(0:Rat)<=(n:Rat):=Rat.natCast_nonneg
theorem Ac{m n:Nat}(h:m<=n):(m:Rat)<=(n:Rat):=Rat.natCast_le_natCast.2 h
theorem qI.mono{D H b:Nat}{p:MP}(h:qI D H p)(e:H<=b):qI D b p:=⟨h.d,Rat.le_trans h.a (Ac e)⟩
theorem qI.mul{D H b e:Nat}{p q:MP}(h:qI D H p)(i:qI b e q):qI (D*b) (H*e) (p*q):=by refine⟨QY h.d i.d,?_⟩;have j:=Rat.mul_le_mul_of_nonneg_left (CE p q) (bQ (D*b));have k:=qp h.a i.a (Rat.mul_nonneg (bQ D) p.am_nonneg) (bQ e);rw[Rat.natCast_mul]at j ⊢;rw[Rat.natCast_mul];grind
theorem qI.sub{D H e:Nat}{p q:MP}(h:qI D H p)(b:qI D e q):qI D (H+e) (p-q):=by refine⟨CB h.d b.d,?_⟩;have j:=Rat.mul_le_mul_of_nonneg_left (KX p q) (bQ D);have i:=h.a;have k:=b.a;rw[Rat.natCast_add];grind
theorem qI.up{D H:Nat}{p:MP}(h:qI D H p)(K:Nat):qI (D*K) (H*K) p:=by refine⟨TA (Nat.dvd_mul_right _ _) h.d,?_⟩;have:=Rat.mul_le_mul_of_nonneg_right h.a (bQ K);rw[Rat.natCast_mul,Rat.natCast_mul];grind
theorem Xw(v n:Nat)(p:MP):(p.co v n).am<=p.am:=by
 have e:bI (aN p.l v n)=bI (p.l.filter λt=>t.1.get v=(n:Int)):=by
  unfold aN;generalize p.l.filter _=l
  induction l with
  | nil=>rfl
  | cons u l b=>simp only[List.map_cons,bI,b]
 show bI (aN p.l v n)<=bI p.l;rw[e]
 have d:∀l:List ai,bI (l.filter λt=>t.1.get v=(n:Int))<=bI l:=λl=>by
  induction l with
  | nil=>exact Rat.le_refl
  | cons t l b =>
   have:=fM t.2;rw[List.filter_cons];split<;>simp only[bI]<;>grind
 exact d p.l
theorem qI.co{D H:Nat}{p:MP}(h:qI D H p)(v n:Nat):qI D H (p.co v n) :=
 ⟨UN h.d v n,Rat.le_trans (Rat.mul_le_mul_of_nonneg_left (Xw v n p) (bQ D)) h.a⟩
theorem xZ{l r:List ai}(h:r.Sublist l):bI r<=bI l:=by
 induction h with
 | slnil=>exact Rat.le_refl
 | cons t _ b=>have:=fM t.2;simp only[bI];grind
 | cons_cons t _ b=>simp only[bI];grind
theorem qI.part{D H:Nat}{p q:MP}(h:qI D H p)(b:q.l.Sublist p.l):qI D H q :=
 ⟨λt e=>h.d t (b.subset e),Rat.le_trans (Rat.mul_le_mul_of_nonneg_left (xZ b) (bQ D)) h.a⟩
theorem qI.zero(D H:Nat):qI D H 0:=⟨Gs D,by rw[M6,Rat.mul_zero];exact bQ H⟩
namespace In
variable {b c:Nat} {p q:MP}
theorem mono(h:In b p)(hb:b<=c):In c p:=by obtain⟨D,H,e,i,j,d⟩:=h;have:=Nat.pow_le_pow_right (oM:0<2) hb;exact⟨D,H,e,oM,oM,d⟩
theorem mul(h:In b p)(j:In c q):In (b+c) (p*q):=by
 obtain⟨D,H,o,d,k,n⟩:=h;obtain⟨s,m,r,l,e,i⟩:=j;refine⟨D*s,H*m,Nat.mul_pos o r,?_,?_,n.mul i⟩
 ·rw[Nat.pow_add];exact Nat.mul_le_mul d l
 ·rw[Nat.pow_add];exact Nat.mul_le_mul k e
theorem co(h:In b p)(v n:Nat):In b (p.co v n):=by obtain⟨D,H,j,e,i,d⟩:=h;exact⟨D,H,j,e,i,d.co v n⟩
theorem part(h:In b p)(k:q.l.Sublist p.l):In b q:=by obtain⟨D,H,i,e,j,d⟩:=h;exact⟨D,H,i,e,j,d.part k⟩
theorem zero(b:Nat):In b 0:=⟨1,1,oM,Nat.one_le_two_pow,Nat.one_le_two_pow,qI.zero 1 1⟩
theorem one(b:Nat):In b 1:=⟨1,1,oM,Nat.one_le_two_pow,Nat.one_le_two_pow,Vy 1,by rw[Vz,Rat.mul_one];exact Rat.le_refl⟩
end In
theorem zx{p:MP}(h:p≠0):∃t∈p.l,hd p=t.2:=by obtain⟨t,l,e⟩:=je h;exact⟨t,by rw[e];simp,xY e⟩
theorem Ny{p:MP}(h:p≠0):bH (hd p)<=p.am:=by obtain⟨t,b,e⟩:=zx h;rw[e];exact tq b
theorem qI.hd{D H:Nat}{p:MP}(h:qI D H p)(b:p≠0):qI D H (c (Q.hd p)):=by obtain⟨t,i,e⟩:=zx b;refine⟨O3 (by rw[e];exact h.d t i),?_⟩;rw[I6];exact Rat.le_trans (Rat.mul_le_mul_of_nonneg_left (Ny b) (bQ D)) h.a
theorem In.hd{b:Nat}{p:MP}(h:In b p)(e:p≠0):In b (c (Q.hd p)):=by obtain⟨D,H,j,i,k,d⟩:=h;exact⟨D,H,j,i,k,d.hd e⟩
theorem GX{p:MP}(h:p≠0):hd p*(1/hd p)=1:=by have:=Rat.div_mul_cancel (a:=1) (vF h);grind
theorem qI.nrm{D H:Nat}{p:MP}(i:qI D H p)(u:0<D)(h:p≠0):∃z:Nat,0<z/\(z:Rat)=(D:Rat)*bH (Q.hd p)/\z<=H/\qI z H (Q.nrm p):=by
 obtain⟨z,hz⟩:∃z:Int,Q.hd p*(D:Rat)=(z:Rat):=by obtain⟨t,j,e⟩:=zx h;rw[e];exact i.d t j
 have n:(D:Rat)≠0:=jE u;have x:=vF h;have l:=GX h
 have C:z≠0:=λe=>by rw[e]at hz;exact jr x n hz
 have b:((z.natAbs:Nat):Rat)=bH (z:Rat):=(Q.rabs_int z).symm;have q:bH (z:Rat)=(D:Rat)*bH (Q.hd p):=by rw[<-hz,jH,bO (bQ D)];grind
 have m:z.natAbs<=H:=by
  have e1:=Rat.mul_le_mul_of_nonneg_left (Ny h) (bQ D);have B:((z.natAbs:Nat):Rat)<=(H:Rat):=by rw[b,q];exact Rat.le_trans e1 i.a
  exact Rat.natCast_le_natCast.1 B
 refine⟨z.natAbs,oM,by rw[b,q],m,?_,?_⟩
 ·intro t j;obtain⟨s,r,rfl⟩:=Df j;obtain⟨k,E⟩:=i.d s r;have o:s.2*(1/Q.hd p)*(z:Rat)=(k:Rat):=by rw[<-hz,<-E];grind
  rcases Int.natAbs_eq z with e|e
  ·refine⟨k,?_⟩;show s.2*(1/Q.hd p)*((z.natAbs:Nat):Rat)=k;rw[<-Rat.intCast_natCast,<-e];exact o
  ·refine⟨-k,?_⟩;show s.2*(1/Q.hd p)*((z.natAbs:Nat):Rat)=_;rw[<-Rat.intCast_natCast,(oM:((z.natAbs:Nat):Int)=-z),Rat.intCast_neg,Rat.intCast_neg,<-o];grind
 ·show _*(c (1/Q.hd p)*p).am<=_;rw[sG,b,<-hz,jH,bO (bQ D)];have y:bH (Q.hd p)*bH (1/Q.hd p)=1:=by rw[<-jH,l];exact qR
  have:bH (Q.hd p)*(D:Rat)*(bH (1/Q.hd p)*p.am)=(bH (Q.hd p)*bH (1/Q.hd p))*((D:Rat)*p.am):=gR;rw[this,y,Rat.one_mul];exact i.a
theorem In.nrm{b:Nat}{p:MP}(h:In b p):In b (Q.nrm p):=by
 by_cases d:p=0
 ·rw[d,jJ];exact In.zero b
 obtain⟨D,H,l,m,e,k⟩:=h;obtain⟨z,i,-,n,j⟩:=k.nrm l d;exact⟨z,H,i,oM,e,j⟩
theorem yf{r:Rat}(d:r≠0)(f:MP):nrm (c r*f)=nrm f:=by
 by_cases h:f=0
 ·have e:c r*f=0:=by rw[h];grind
  rw[e,h]
 have b:=vF h;have i:hd f*r≠0:=jr b d;rw[nrm,nrm,sI d]
 have e:(1:Rat)/(hd f*r)*r=1/hd f:=by
  have e1:=Rat.div_mul_cancel (a:=1) i;have l:=Rat.div_mul_cancel (a:=1) b;have k:(1:Rat)/(hd f*r)*r*hd f=1/hd f*hd f:=gR;have j:((1:Rat)/(hd f*r)*r - 1/hd f)*hd f=0:=gR;rcases Rat.mul_eq_zero.1 j with h|h
  ·grind
  ·exact absurd h b
 rw[<-e,<-lX];grind
def Dg (d:Nat->Nat) (p:MP):Prop:=∀w,w<4->p.deg w<=d w
theorem Dg.mono{d e:Nat->Nat}{p:MP}(h:Dg d p)(hd:∀w,d w<=e w):Dg e p:=λw b=>by have:=h w b;have:=hd w;omega
theorem Dg.dvd{d:Nat->Nat}{p q:MP}(h:Dg d p)(b:p≠0)(hq:q∣p):Dg d q:=λw e=>Int.le_trans (dvd_deg b hq w) (h w e)
theorem uE{r:Rat}(b:r≠0){p:MP}(h:p≠0)(w:Nat):(c r*p).deg w=p.deg w:=by rw[deg_mul (wF b) h];have e:=deg_pos (wF b) w;have d:(c r).deg w<=0:=nX r w;omega
theorem Dz{r:Rat}(b:r≠0)(p:MP):c r*p∣p/\p∣c r*p:=by
 refine⟨⟨c r⁻¹,?_⟩,⟨c r,gR⟩⟩;have h:c r*c r⁻¹=1:=by rw[lX,Rat.mul_inv_cancel _ b];rfl
 grind
theorem In.fac{b k n:Nat}{a f:MP}{d:Nat->Nat}(B:n<=4)(h:In b a)(l:a≠0)(hf:f∣a)(u:a.lo n)(hd:Dg d a)(G:uz d n<=2^k):In (b+k) (Q.nrm f):=by
 obtain⟨D,H,x,I,E,q⟩:=h;obtain⟨g,s⟩:=hf;have f0:f≠0:=λe=>l (by rw[s,e];grind);obtain⟨r,p,hp⟩:=Rx f0;have i:(D:Rat)≠0:=jE x
 have e:c (D:Rat)*a=(c r*f)*(c ((D:Rat)*r⁻¹)*g):=by
  have y:c r*c ((D:Rat)*r⁻¹)=c (D:Rat):=by rw[lX];congr 1;have:=Rat.mul_inv_cancel _ p;grind
  rw[s,<-y];grind
 have C:(c (D:Rat)*a).dv 1:=qW q.d;have F:=LF C hp e;have m:c (D:Rat)*a≠0:=mul_ne (wF i) l;have j:=MP.fac d n B _ _ _ e m hp.1 F (iw l (Dz i a).1 u) λw J=>by rw[uE i l];exact hd w oM
 rw[sG (D:Rat) a,bO (bQ D)]at j
 have z:In (b+k) (c r*f):=by
  refine⟨1,2^(b+k),oM,Nat.one_le_two_pow,Nat.le_refl _,hp.1,?_⟩;have e1:((1:Nat):Rat)=1:=rfl;rw[e1,Rat.one_mul]
  have o:(uz d n:Rat)*((D:Rat)*a.am)<=((2^k:Nat):Rat)*((2^b:Nat):Rat) :=
   qp (Ac G) (Rat.le_trans q.a (Ac E)) (bQ _) (bQ _)
  rw[<-Rat.natCast_mul,<-Nat.pow_add,Nat.add_comm]at o;exact Rat.le_trans j o
 have:=z.nrm;rwa[yf p]at this
theorem qZ{p:MP}(h:p≠0):p=c (hd p)*nrm p:=by
 have b:c (hd p)*c (1/hd p)=1:=by rw[lX,GX h];rfl
 rw[nrm];grind
theorem In.quot{b k n:Nat}{a q z:MP}{d:Nat->Nat}(s:n<=4)(h:In b a)(i:a≠0)(e:a=q*z)(hz:Q.hd z=1)(m:a.lo n)(hd:Dg d a)(r:uz d n<=2^k):In (b+(b+k)) q:=by
 have j:q≠0:=λh=>i (by rw[e,h];grind);have p:z≠0:=λh=>i (by rw[e,h];grind);have e1:Q.hd a=Q.hd q:=by rw[e,GV j p,hz,Rat.mul_one]
 have o:=h.fac s i ⟨z,e⟩ m hd r;have l:=(h.hd i).mul o;rwa[e1,<-qZ j]at l
end Q
end
