/- Images of polynomials modulo 2^31 - 1: the images' greatest common divisor has at least the degree of a common divisor. No program in sight. -/
import Derived.Test.YtopclbeomcggiaaGreatW33
set_option linter.unusedVariables false
set_option linter.unusedSimpArgs false
set_option maxHeartbeats 16000000
set_option maxRecDepth 100000
section
namespace Q
open MP
def jc (v t:Nat):Nat->MP->MP
 | 0,p=>p
 | w+1,p=>if w=v then jc v t w p else at' w ((t+w:Nat):Rat) (jc v t w p)
theorem yg(v t:Nat):∀(w:Nat)(p q:MP),jc v t w (p*q)=jc v t w p*jc v t w q
 | 0,_,_=>rfl
 | w+1,p,q=>by
  simp only[jc];split
  ·exact yg v t w p q
  ·rw[yg v t w p q,Dx]
theorem yh(v t:Nat){D:Nat}:∀(w:Nat){p:MP},p.dv D->(jc v t w p).dv D
 | 0,_,h=>h
 | w+1,p,h=>by
  simp only[jc];split
  ·exact yh v t w h
  ·rw[<-iN];exact RJ (yh v t w h) w _
theorem uI(v t:Nat)(hv:v<4):∀(w:Nat),w<=4->∀{p:MP}{u d:Nat},u<4->p.deg u<=d->(jc v t w p).deg u<=d
 | 0,_,_,_,_,_,h=>h
 | w+1,hw,p,u,d,hu,h=>by
  simp only[jc];split
  ·exact uI v t hv w (by omega) hu h
  ·exact GY _ _ (by omega) hu (uI v t hv w (by omega) hu h)
def FB (v t:Nat) (e:Ex):Nat->Nat
 | 0=>1
 | w+1=>if w=v then FB v t e w else FB v t e w*(t+w)^(e.get w).toNat
def SK (v:Nat) (e:Ex):Nat->Ex
 | 0=>e
 | w+1=>if w=v then SK v e w else(SK v e w).put w 0
theorem A9(v:Nat)(hv:v<4)(e:Ex):∀w,w<=4->∀u,u<4->(SK v e w).get u=if u<w/\u≠v then 0 else e.get u
 | 0,_,u,_=>by simp[SK]
 | w+1,hw,u,hu=>by
  have i:=A9 v hv e w oM u hu;simp only[SK];split
  ·rename_i h;rw[i];by_cases b:u<w/\u≠v
   ·rw[if_pos b,if_pos ⟨oM,b.2⟩]
   ·rw[if_neg b,if_neg oM]
  ·rename_i h;by_cases b:w=u
   ·subst b;rw[Ex.get_put,if_pos ⟨oM,h⟩]
   ·rw[Ex.get_put_ne _ oM hu b,i];by_cases d:u<w/\u≠v
    ·rw[if_pos d,if_pos ⟨oM,d.2⟩]
    ·rw[if_neg d,if_neg oM]
theorem XC(f:Ex->Rat)(w:Nat)(r:Rat)(p:MP):Lf f (at' w r p).l=Lf (λe=>r^(e.get w).toNat * f (e.put w 0)) p.l:=by have h:dO (evalL p.l w r):=dO.evalL p.v.nat w r;show Lf f (canon (evalL p.l w r))=_;rw[kN h f];exact yC _ _ _ _ λt _=>by show t.2*r^_*f (t.1.put w 0)=_;grind
theorem Nz(v t:Nat)(hv:v<4)(p:MP):∀(w:Nat),w<=4->∀f:Ex->Rat,Lf f (jc v t w p).l=Lf (λe=>(FB v t e w:Rat)*f (SK v e w)) p.l
 | 0,_,f=>jJ λs _=>by show f s.1=((1:Nat):Rat)*f s.1;have e:((1:Nat):Rat)=1:=rfl;rw[e];grind
 | w+1,hw,f=>by
  have b:=Nz v t hv p w oM;by_cases h:w=v
  ·simp only[jc,FB,SK,if_pos h];exact b f
  ·simp only[jc,FB,SK,if_neg h];rw[XC,b];refine jJ λs _=>?_;have e:(SK v s.1 w).get w=s.1.get w:=by rw[A9 v hv s.1 w oM w oM,if_neg oM]
   rw[e,Rat.natCast_mul,Rat.natCast_pow];grind
theorem Ua(v t:Nat)(hv:v<4)(p:MP)(i:Nat):cf (jc v t 4 p).l (e0.put v i)=Lf (λe=>if e.get v=i then(FB v t e 4:Rat)else 0) p.l:=by
 show Lf _ _=_;rw[Nz v t hv p 4 (nL _)];refine jJ λs _=>?_
 have e:(SK v s.1 4=e0.put v i)↔s.1.get v=(i:Int):=by
  constructor
  ·intro h;have:=congrArg (Ex.get · v) h;simp only[A9 v hv s.1 4 (nL _) v hv,Ex.get_put]at this;rw[if_neg oM]at this;exact this
  ·intro h;refine Ex.ext4 λu hu=>?_;rw[A9 v hv s.1 4 (nL _) u hu];by_cases hc:v=u
   ·subst hc;rw[if_neg oM,Ex.get_put,h]
   ·rw[if_pos ⟨hu,Ne.symm hc⟩,Ex.get_put_ne _ hv hu hc,BD]
 by_cases hc:s.1.get v=(i:Int)
 ·rw[if_pos hc,if_pos (e.2 hc)];grind
 ·rw[if_neg hc,if_neg λh=>hc (e.1 h)];grind
def Cg (a b:Int):Prop:=∃k:Int,a=b+2147483647*k
theorem Cg.refl(a:Int):Cg a a:=⟨0,oM⟩
theorem Cg.symm{a b:Int}(h:Cg a b):Cg b a:=by obtain⟨k,h⟩:=h;exact⟨-k,oM⟩
theorem Cg.trans{a b c:Int}(h:Cg a b)(d:Cg b c):Cg a c:=by obtain⟨k,h⟩:=h;obtain⟨l,d⟩:=d;exact⟨k+l,oM⟩
theorem Cg.add{a b c d:Int}(h:Cg a b)(e:Cg c d):Cg (a+c) (b+d):=by obtain⟨k,h⟩:=h;obtain⟨l,e⟩:=e;exact⟨k+l,oM⟩
theorem Cg.mul{a b c d:Int}(h:Cg a b)(e:Cg c d):Cg (a*c) (b*d):=by obtain⟨k,rfl⟩:=h;obtain⟨l,rfl⟩:=e;exact⟨b*l+k*d+2147483647*k*l,gR⟩
theorem Cg.mod(a:Nat):Cg ((a%pr:Nat):Int) a:=⟨-((a/pr:Nat):Int),by have:=Nat.div_add_mod a pr;rw[jq]at *;omega⟩
theorem Cg.zero{a:Int}(h:Cg a 0):(2147483647:Int)∣a:=by obtain⟨k,h⟩:=h;exact⟨k,oM⟩
theorem Cg.cancel{a b d:Int}(hd:¬(2147483647:Int)∣d)(h:Cg (a*d) (b*d)):Cg a b:=by
 obtain⟨k,h⟩:=h;have i:((pr:Nat):Int)∣(a - b)*d:=⟨k,by rw[jq];grind⟩;rcases A8 DD i with e|e
 ·obtain⟨l,e⟩:=e;exact⟨l,by rw[jq]at e;omega⟩
 ·rw[jq]at e;exact absurd e hd
theorem yj(z:Int):Cg (dY z) z:=by
 unfold dY;split
 ·exact⟨(z.natAbs/2147483647:Nat)+1,by have:=Nat.div_add_mod z.natAbs 2147483647;omega⟩
 ·rename_i h;by_cases hz:z<0
  ·exact⟨(z.natAbs/2147483647:Nat),by have:=Nat.div_add_mod z.natAbs 2147483647;omega⟩
  ·exact⟨-((z.natAbs/2147483647:Nat):Int),by have:=Nat.div_add_mod z.natAbs 2147483647;omega⟩
theorem Ub(a:Nat){n:Nat}(h:n<18446744073709551616):Cg (jC a n) ((a^n:Nat):Int):=by rw[Ny a h];exact Cg.mod _
theorem NA{m:ai}{v t:Nat}(i:m.1.nat=true)(he:∀w,m.1.get w<18446744073709551616):∀w:Nat,Cg (sH m v t w) ((dY m.2.num*jC (dY m.2.den) (pr-2):Nat)*(FB v t m.1 w:Nat):Int)
 | 0=>by rw[sH,FB];have:=Cg.mod (dY m.2.num*jC (dY m.2.den) (pr-2));have e:∀x:Int,x*((1:Nat):Int)=x:=λx=>oM;rw[e];exact this
 | w+1=>by
  rw[sH,FB];have b:=NA (v:=v) (t:=t) i he w;split
  ·exact b
  ·have h:=Ub (t+w) (n:=(m.1.get w).toNat) (by have:=he w;omega);have d:=(Cg.mod (sH m v t w*jC (t+w) (m.1.get w).toNat)).trans (by rw[Int.natCast_mul];exact b.mul h);rw[Int.natCast_mul (FB v t m.1 w),<-Int.mul_assoc];exact d
theorem Uc{m:ai}{v t:Nat}(p:m.1.nat=true)(he:∀w,m.1.get w<18446744073709551616)(hd:dY m.2.den≠0):Cg (Ll m v t*m.2.den) (m.2.num*(FB v t m.1 4:Nat)):=by
 have i:=NA (v:=v) (t:=t) p he 4;have j:=yj m.2.num;have k:=yj (m.2.den:Int);have b:dY (m.2.den:Int)<pr:=qj _;have l:=LY (x:=dY (m.2.den:Int)) oM b;have d:=Cg.mod (jC (dY m.2.den) (pr-2)*dY m.2.den);rw[l]at d
 have n:Cg ((jC (dY m.2.den) (pr-2):Nat)*(m.2.den:Int)) 1:=by have:=(Cg.refl ((jC (dY m.2.den) (pr-2):Nat):Int)).mul k;refine(this.symm.trans ?_);rw[<-Int.natCast_mul];exact d.symm
 have o:=i.mul (Cg.refl (m.2.den:Int));refine o.trans ?_;have h:=(j.mul n).mul (Cg.refl (FB v t m.1 4:Int));rw[Int.mul_one]at h;rw[Int.natCast_mul];have e:(dY m.2.num:Int)*(jC (dY m.2.den) (pr-2):Nat)*(FB v t m.1 4:Nat)*m.2.den=(dY m.2.num:Int)*((jC (dY m.2.den) (pr-2):Nat)*(m.2.den:Int))*(FB v t m.1 4:Nat):=gR;rw[e];exact h
def cS (N v t i:Nat):List ai->Int
 | []=>0
 | m::l=>(if m.1.get v=(i:Int)then(m.2*(N:Rat)).num*(FB v t m.1 4:Nat)else 0)+cS N v t i l
theorem UV{N v t i:Nat}:∀{l:List ai},(∀m∈l,Dv N m.2)->(N:Rat)*Lf (λe=>if e.get v=i then(FB v t e 4:Rat)else 0) l=(cS N v t i l:Rat)
 | [],_=>by show(N:Rat)*0=((0:Int):Rat);rw[Rat.mul_zero];rfl
 | m::l,h=>by
  have j:=UV (i:=i) (v:=v) (t:=t) (l:=l) λs d=>h s (by simp[d]);obtain⟨k,b⟩:=h m sM;rw[rF,cS,Rat.intCast_add,<-j,b];split
  ·rw[Rat.intCast_mul,iN];have:((k:Rat)).num=k:=rfl;rw[this,<-b];grind
  ·rw[Rat.intCast_zero];grind
theorem JG{N v t:Nat}(hv:v<4):∀{l:List ai}{out x:List Nat},jr v t l out=some x->dO l->(∀m∈l,∀w,m.1.get w<18446744073709551616)->(∀m∈l,Dv N m.2)->(∀m∈l,(m.1.get v).toNat<out.length) ->
  x.length=out.length/\∀i,i<out.length->Cg ((N:Int)*x.getD i 0) ((N:Int)*out.getD i 0+cS N v t i l)
 | [],out,x,h,_,_,_,_=>by simp only[jr,sJ]at h;subst h;exact⟨rfl,λi _=>by rw[cS,Int.add_zero];exact Cg.refl _⟩
 | m::l,out,x,h,hn,he,hd,hk=>by
  rw[jr]at h;split at h
  ·cases h
  ·rename_i d;have hm:=hn m sM;obtain⟨o,k⟩:=JG hv h (λs j=>hn s (by simp[j])) (λs j=>he s (by simp[j])) (λs j=>hd s (by simp[j])) (λs j=>by rw[List.length_set];exact hk s (by simp[j]));rw[List.length_set]at o k;refine⟨o,λi G=>(k i G).trans ?_⟩;rw[cS,<-Int.add_assoc];refine Cg.add ?_ (Cg.refl _);have H:=hk m sM;have F:=Ex.nat_get hm v;by_cases hc:m.1.get v=(i:Int)
   ·have e:(m.1.get v).toNat=i:=oM;rw[if_pos hc,e,jD,List.getElem?_set_self oM,Option.getD_some];have p:=Cg.mod (out.getD i 0+Ll m v t);rw[Int.natCast_add]at p;have y:=(Cg.refl (N:Int)).mul p;refine y.trans ?_;rw[Int.mul_add];refine(Cg.refl _).add ?_;have B:=Uc (v:=v) (t:=t) hm (he m sM) d;obtain⟨z,hz⟩:=hd m sM;rw[hz];show Cg _ (z*_)
    have n:¬(2147483647:Int)∣m.2.den:=λr=>d (by
     have:=yj (m.2.den:Int);have I:=qj (m.2.den:Int);obtain⟨a,ha⟩:=r;obtain⟨b,hb⟩:=this
     omega)
    refine Cg.cancel n ?_
    have C:z*m.2.den=N*m.2.num:=by
     have D:m.2*(m.2.den:Rat)=m.2.num:=by have o:(m.2.den:Rat)≠0:=jH m.2.den_pos;have k:=Rat.num_divInt_den m.2;rw[Rat.divInt_eq_div,iN]at k;have p:(m.2.num:Rat)/(m.2.den:Rat)*(m.2.den:Rat)=m.2.num:=Rat.div_mul_cancel o;rwa[k]at p
     have E:((z*m.2.den:Int):Rat)=((N*m.2.num:Int):Rat):=by rw[Rat.intCast_mul,Rat.intCast_mul,<-hz,<-D,iN,iN];grind
     exact Rat.intCast_inj.1 E
    have q:=(Cg.refl (N:Int)).mul B;have e1:(N:Int)*Ll m v t*m.2.den=N*(Ll m v t*m.2.den):=gR
    have u:z*(FB v t m.1 4:Nat)*m.2.den=N*(m.2.num*(FB v t m.1 4:Nat)):=by have:z*(FB v t m.1 4:Nat)*m.2.den=(z*m.2.den)*(FB v t m.1 4:Nat):=gR;rw[this,C];grind
    rw[e1,u];exact q
   ·have e:(m.1.get v).toNat≠i:=oM;rw[if_neg hc,Int.add_zero,jD,List.getElem?_set_ne e,<-jD];exact Cg.refl _
theorem DF(n i:Nat):(List.replicate n 0).getD i 0=0:=by
 rw[jD];rcases Nat.lt_or_ge i n with h|h
 ·rw[List.getElem?_replicate,if_pos h];rfl
 ·rw[gN (by simpa using h)];rfl
def qH (v:Nat) (l:List Nat):MP:=cK (λi=>c ((l.getD i 0:Nat):Rat)*xk v i) l.length
theorem nW(v:Nat)(l:List Nat)(i:Nat):(qH v l).co v i=c ((l.getD i 0:Nat):Rat):=by
 rw[qH,rZ];rcases Nat.lt_or_ge i l.length with h|h
 ·rw[qc _ h λj _ b=>by rw[co_mul_fr (ow _ _),fH,if_neg (Ne.symm b)];grind];rw[co_mul_fr (ow _ _),fH,if_pos rfl];grind
 ·rw[dF (g:=λ_=>0) λj b=>by rw[co_mul_fr (ow _ _),fH,if_neg oM];grind,mY];rw[jD,gN h];rfl
theorem Pn(v:Nat)(l:List Nat):(qH v l).deg v<=(l.length:Int)-1:=by refine deg_le_of oM λn b=>?_;rw[nW,jD,gN oM];rfl
theorem L6(v:Nat){p q:MP}(h:∀i,p.co v i=q.co v i):p=q:=by obtain⟨N,b⟩:∃N,N=(max (p.deg v) (q.deg v)).toNat+1:=⟨_,rfl⟩;rw[split v p (N:=N) oM,split v q (N:=N) oM];exact dF λi _=>by rw[h i]
def Ud (v:Nat) (F:MP) (l:List Nat):Prop:=∃E R:MP,E.dv 1/\R.dv 1/\qH v l=F*E+c (pr:Rat)*R
theorem RX(n:Nat):(c (n:Rat)).dv 1:=by rw[<-iN];exact wG 1 _
theorem ND(v k:Nat):(xk v k).dv 1:=λt b=>by rw[List.mem_singleton.1 b];exact Dv.int 1 1
theorem RY(v:Nat)(l:List Nat):(qH v l).dv 1:=xU λi _=>jf (RX _) (ND v i)
theorem RZ(l:List Nat)(k y i:Nat)(b:k<l.length):(l.set k y).getD i 0=if i=k then y else l.getD i 0:=by
 rw[jD];by_cases h:i=k
 ·subst h;rw[if_pos rfl,List.getElem?_set_self b];rfl
 ·rw[if_neg h,List.getElem?_set_ne (Ne.symm h),jD]
theorem UW(r s:Rat):c (r+s)=c r+c s:=ext' λx=>by rw[MP.ev_add,ev_c,ev_c,ev_c]
theorem zA:∀(l:List Nat)(i:Nat),(strip l).getD i 0=l.getD i 0
 | [],_=>rfl
 | x::l,i=>by
  have b:=zA l;rw[strip];split
  ·rename_i h;rw[h]at b;have hz:∀j,l.getD j 0=0:=λj=>by rw[<-b j];rfl
   split
   ·rename_i d
    cases i with
    | zero=>rw[d];rfl
    | succ i=>have:=hz i;simpa using this.symm
   ·cases i with
    | zero=>rfl
    | succ i=>have:=hz i;simpa using this.symm
  ·rename_i y r h;rw[<-h]
   cases i with
   | zero=>rfl
   | succ i=>have:=b i;simpa using this
theorem JH(v:Nat)(l:List Nat):qH v (strip l)=qH v l:=L6 v λi=>by rw[nW,nW,zA]
def Tp (l:List Nat):Prop:=l≠[]->l.getD (l.length-1) 0≠0
theorem yl:∀l:List Nat,Tp (strip l)
 | []=>λh=>absurd rfl h
 | x::l=>by
  have b:=yl l;rw[strip];split
  ·split
   ·exact λh=>absurd rfl h
   ·rename_i d;exact λ_=>d
  ·rename_i y r h;rw[h]at b;intro _;have:=b sM;simpa using this
theorem FC:∀l:List Nat,(strip l).length<=l.length
 | []=>nL _
 | x::l=>by
  have b:=FC l;rw[strip];split
  ·split<;>simp
  ·rename_i y r h;rw[h]at b;simpa using b
theorem Sa{l:List Nat}(j:l≠[])(h:l.getD (l.length-1) 0=0):(strip l).length<l.length:=by
 have k:=FC l;rcases Nat.eq_or_lt_of_le k with e|hlt
 ·exfalso;have b:strip l≠[]:=λi=>by rw[i]at e;have:=List.length_eq_zero_iff.1 e.symm;exact j this
  have d:=yl l b;rw[zA,e]at d;exact d h
 ·exact hlt
theorem zB{l:List Nat}(h:∀x∈l,x<pr):∀x∈strip l,x<pr:=by
 induction l with
 | nil=>exact h
 | cons x l d =>
  have d:=d λy b=>h y (by simp[b]);rw[strip];split
  ·split
   ·intro _ b;cases b
   ·intro y b;rw[List.mem_singleton.1 b];exact h x sM
  ·rename_i z r e;rw[e]at d;intro y b;rcases List.mem_cons.1 b with rfl|b
   ·exact h _ sM
   ·exact d y b
theorem rA(b rest:List Nat)(f at_:Nat):∀i,(fC b rest f at_ i).length=rest.length
 | 0=>rfl
 | i+1=>by rw[fC,List.length_set,rA b rest f at_ i]
theorem vB{b rest:List Nat}{f at_:Nat}(h:∀x∈rest,x<pr):∀i,∀x∈fC b rest f at_ i,x<pr
 | 0=>h
 | i+1=>λx d=>by
  rw[fC]at d;rcases List.mem_or_eq_of_mem_set d with d|rfl
  ·exact vB h i x d
  ·exact Nat.mod_lt _ (by decide)
theorem zC{b rest:List Nat}{f at_:Nat}:∀(i:Nat),at_+i<=rest.length->∀j,(fC b rest f at_ i).getD j 0=if at_<=j/\j<at_+i then(rest.getD j 0+(pr-b.getD (j-at_) 0)*f)%pr else rest.getD j 0
 | 0,_,j=>by rw[fC,if_neg (by omega)]
 | i+1,h,j=>by
  have k:=zC (b:=b) (rest:=rest) (f:=f) (at_:=at_) i oM;rw[fC,RZ _ _ _ _ (by rw[rA];omega),k j,k (at_+i)];by_cases e:j=at_+i
  ·subst e;rw[if_pos rfl,if_neg oM,if_pos oM,(oM:at_+i-at_=i)]
  ·rw[if_neg e];by_cases d:at_<=j/\j<at_+i
   ·rw[if_pos d,if_pos oM]
   ·rw[if_neg d,if_neg oM]
theorem Ud.red{v:Nat}{F:MP}{b rest:List Nat}(L:Ud v F rest)(hb:Ud v F b)(p:∀x∈b,x<pr)(f:Nat){at_:Nat}(h:at_+b.length=rest.length):Ud v F (fC b rest f at_ b.length):=by
 obtain⟨E,R,N,S,e⟩:=L;obtain⟨D,G,s,u,H⟩:=hb
 have key:∃K:MP,K.dv 1/\qH v (fC b rest f at_ b.length)=qH v rest-c (f:Rat)*(xk v at_*qH v b)+c (pr:Rat)*K:=by
  have hq:∀j,∃k:Int,((fC b rest f at_ b.length).getD j 0:Int)=(rest.getD j 0:Int)-(if at_<=j then(f:Int)*(b.getD (j-at_) 0:Nat)else 0)+2147483647*k:=λj=>by
   rw[zC b.length oM];by_cases d:at_<=j/\j<at_+b.length
   ·rw[if_pos d,if_pos d.1]
    have r:b.getD (j-at_) 0<pr:=by rw[jD,gE (by omega:j-at_<b.length)];exact p _ (List.getElem_mem _)
    obtain⟨y,M⟩:∃y,y=b.getD (j - at_) 0:=⟨_,rfl⟩;rw[<-M]at r ⊢;obtain⟨k,n⟩:=Cg.mod (rest.getD j 0+(pr - y)*f);refine⟨k+f,?_⟩;rw[n,Int.natCast_add,Int.natCast_mul,Int.ofNat_sub oM,jq];grind
   ·rw[if_neg d];refine⟨0,?_⟩;by_cases o:at_<=j
    ·rw[if_pos o,jD (l:=b),gN oM];simp
    ·rw[if_neg o];omega
  have ⟨k,n⟩:∃k:Nat->Int,∀j,((fC b rest f at_ b.length).getD j 0:Int)=(rest.getD j 0:Int)-(if at_<=j then(f:Int)*(b.getD (j-at_) 0:Nat)else 0)+2147483647*k j :=
   ⟨λj=>(((fC b rest f at_ b.length).getD j 0:Int)-((rest.getD j 0:Int)-(if at_<=j then(f:Int)*(b.getD (j-at_) 0:Nat)else 0)))/2147483647,λj=>by
    obtain⟨k,n⟩:=hq j
    simp only[n];omega⟩
  refine⟨cK (λi=>c (k i:Rat)*xk v i) rest.length,xU λi _=>jf (wG 1 _) (ND v i),L6 v λj=>?_⟩
  have J:(cK (λi=>c (k i:Rat)*xk v i) rest.length).co v j=if j<rest.length then c (k j:Rat)else 0:=by
   rw[rZ];split
   ·rename_i m;rw[qc _ m λi _ C=>by rw[co_mul_fr (ow _ _),fH,if_neg (Ne.symm C)];grind];rw[co_mul_fr (ow _ _),fH,if_pos rfl];grind
   ·rename_i m;rw[dF (g:=λ_=>0) λi C=>by rw[co_mul_fr (ow _ _),fH,if_neg oM];grind,mY]
  rw[co_add,co_sub,co_mul_fr (ow _ _),co_xk,co_mul_fr (ow _ _),J,nW,nW,nW];have d:=n j
  have o:(((fC b rest f at_ b.length).getD j 0:Nat):Rat)=(rest.getD j 0:Nat)-(if at_<=j then(f:Rat)*(b.getD (j-at_) 0:Nat)else 0)+(pr:Rat)*(k j:Rat):=by
   have B:=congrArg (λz:Int=>(z:Rat)) d;simp only[Rat.intCast_add,Rat.intCast_sub,Rat.intCast_mul,iN]at B;rw[B,jq];by_cases hc:at_<=j
   ·rw[if_pos hc,if_pos hc,Rat.intCast_mul,iN,iN];rfl
   ·rw[if_neg hc,if_neg hc];rfl
  rw[o]
  have q:¬j<rest.length->(k j:Rat)=0:=λm=>by
   have W:(fC b rest f at_ b.length).getD j 0=0:=by rw[jD,gN (by rw[rA];omega)];rfl
   have X:rest.getD j 0=0:=by rw[jD,gN oM];rfl
   have Y:b.getD (j-at_) 0=0:=by rw[jD,gN oM];rfl
   rw[W,X,Y]at d;have:k j=0:=by split at d<;>omega
   rw[this];rfl
  refine ext' λx=>?_;by_cases m:j<rest.length
  ·rw[if_pos m];by_cases hc:at_<=j
   ·rw[if_pos hc,if_pos hc];simp only[MP.ev_add,MP.ev_sub,MP.ev_mul,ev_c]
   ·rw[if_neg hc,if_neg hc];simp only[MP.ev_add,MP.ev_sub,MP.ev_mul,ev_c,ev_zero];grind
  ·rw[if_neg m,q m];by_cases hc:at_<=j
   ·rw[if_pos hc,if_pos hc];simp only[MP.ev_add,MP.ev_sub,MP.ev_mul,ev_c,ev_zero]
   ·rw[if_neg hc,if_neg hc];simp only[MP.ev_add,MP.ev_sub,MP.ev_mul,ev_c,ev_zero];grind
 obtain⟨K,O,I⟩:=key;have i1:(c (f:Rat)*xk v at_).dv 1:=jf (RX f) (ND v at_);refine⟨E - c (f:Rat)*xk v at_*D,R - c (f:Rat)*xk v at_*G+K,CP N (jf i1 s),CO (CP S (jf i1 u)) O,?_⟩;rw[I,e,H];grind
theorem Ud.strip{v:Nat}{F:MP}{l:List Nat}(h:Ud v F l):Ud v F (strip l):=by obtain⟨E,R,b,d,e⟩:=h;exact⟨E,R,b,d,by rw[JH,e]⟩
structure Gd (v:Nat) (F:MP) (l:List Nat):Prop where
 d:Ud v F l
 t:Tp l
 m:∀x∈l,x<pr
theorem Gd.rest{v:Nat}{F:MP}{b:List Nat}(hb:Gd v F b)(inv:Nat):∀{n:Nat}{r x:List Nat},kX b inv n r=some x->Gd v F r->Gd v F x
 | 0,_,_,h,_=>by cases h
 | n+1,r,x,h,hr=>by
  rw[kX]at h;split at h
  ·rename_i kQ;exact Gd.rest hb inv h ⟨(hr.d.red hb.d hb.m _ (by omega)).strip,yl _,zB (vB hr.m _)⟩
  ·simp only[sJ]at h;subst h;exact hr
theorem Gd.share{v:Nat}{F:MP}:∀{n:Nat}{a b:List Nat}{k:Nat},il n a b=some k->Gd v F a->Gd v F b->a≠[]->∃l,Gd v F l/\l≠[]/\l.length=k
 | 0,_,_,_,h,_,_,_=>by cases h
 | n+1,a,b,k,h,ha,hb,hne=>by
  rw[il]at h;split at h
  ·simp only[sJ]at h;exact⟨a,ha,hne,h⟩
  ·rename_i d;split at h
   ·cases h
   ·rename_i r e;exact Gd.share h hb (hb.rest _ e ha) d
theorem Gd.len{v:Nat}{F:MP}{l:List Nat}(h:Gd v F l)(p:l≠[])(Z:F.dv 1)(S:¬Dw pr (F.lc v)):F.deg v<=(l.length:Int)-1:=by
 obtain⟨E,R,L,iR,e⟩:=h.d;have J:0<pr:=dM;rcases Int.lt_or_le ((l.length:Int) - 1) (F.deg v)with hlt|kQ
 ·exfalso;have O:=GV (vI pr) E;obtain⟨X,iX,eX⟩:=GX J L;obtain⟨i,k⟩:∃g,g=SI (λt=>!vI pr t) E:=⟨_,rfl⟩;have M:i.dv 1:=by rw[k];exact LP L
  rw[<-k,eX]at O;have N:qH v l=F*i+c (pr:Rat)*(F*X+R):=by rw[e,O];grind
  have G:(F*X+R).dv 1:=CO (jf Z iX) iR;have o:F≠0:=λh0=>S (by rw[h0];exact uG pr);by_cases hz:i=0
  ·have j:=congrArg (λg=>cf (MP.co v (l.length-1) g).l e0) N;simp only[nW,hz]at j;have e3:F*0+c (pr:Rat)*(F*X+R)=c (pr:Rat)*(F*X+R):=gR;rw[e3,co_mul_fr (ow _ _),qF]at j
   have i3:((F*X+R).co v (l.length-1)).dv 1:=λt b=>by have b:t∈((F*X+R).l.filter λu=>u.1.get v=((l.length - 1:Nat):Int)).map λu=>(u.1.put v 0,u.2):=b;obtain⟨u,hu,rfl⟩:=List.mem_map.1 b;exact G u (List.mem_filter.1 hu).1
   obtain⟨z,hz⟩:=iI (Fg i3 e0);rw[hz]at j;have b:=h.t p
   have hm:l.getD (l.length-1) 0<pr:=by rw[jD,gE (by have:=List.length_pos_iff.2 p;omega:l.length-1<l.length)];exact h.m _ (List.getElem_mem _)
   have e4:cf (c ((l.getD (l.length-1) 0:Nat):Rat)).l e0=((l.getD (l.length-1) 0:Nat):Rat):=by show cf (bZ _) e0=_;rw[bZ,if_neg (jH oM),bJ,jv,if_pos rfl];exact Rat.add_zero _
   rw[e4,<-iN,<-iN,<-Rat.intCast_mul]at j;have h5:=Rat.intCast_inj.1 j;have h6:(0:Int)<((l.getD (l.length-1) 0:Nat):Int):=oM;rw[jq]at *;omega
  ·have j:=congrArg (λg=>MP.co v ((F.deg v).toNat+(i.deg v).toNat) g) N;simp only[co_add]at j;rw[vT v o hz,co_mul_fr (ow _ _)]at j;have hd:=Pn v l;have:=deg_pos o v;rw[co_above oM]at j
   have i3:((F*X+R).co v ((F.deg v).toNat+(i.deg v).toNat)).dv 1:=λt b=>by have b:t∈((F*X+R).l.filter λu=>u.1.get v=(((F.deg v).toNat+(i.deg v).toNat:Nat):Int)).map λu=>(u.1.put v 0,u.2):=b;obtain⟨u,hu,rfl⟩:=List.mem_map.1 b;exact G u (List.mem_filter.1 hu).1
   have I:(F.lc v).dv 1:=λt b=>by have b:t∈(F.l.filter λu=>u.1.get v=((F.deg v).toNat:Int)).map λu=>(u.1.put v 0,u.2):=b;obtain⟨u,hu,rfl⟩:=List.mem_map.1 b;exact Z u (List.mem_filter.1 hu).1
   have H:(i.lc v).dv 1:=λt b=>by have b:t∈(i.l.filter λu=>u.1.get v=((i.deg v).toNat:Int)).map λu=>(u.1.put v 0,u.2):=b;obtain⟨u,hu,rfl⟩:=List.mem_map.1 b;exact M u (List.mem_filter.1 hu).1
   have K:Dw pr (F.lc v*i.lc v):=⟨-((F*X+R).co v ((F.deg v).toNat+(i.deg v).toNat)),Rb i3,gR⟩;rcases Fy DD I H K with h3|h3
   ·exact S h3
   ·obtain⟨Y,iY,eY⟩:=h3;obtain⟨t,r,b⟩:=jg (lc_ne hz v);have q:t∈(i.lc v).l:=by rw[b];simp
    have n:=Ld q;rw[eY,qF]at n;have s:t∈(i.l.filter λu=>u.1.get v=((i.deg v).toNat:Int)).map λu=>(u.1.put v 0,u.2):=q;obtain⟨u,hu,rfl⟩:=List.mem_map.1 s;have B:=(List.mem_filter.1 hu).1;rw[k]at B;have C:u∈E.l.filter (λt=>!vI pr t):=B;have D:=(List.mem_filter.1 C).2;obtain⟨y,hy⟩:=iI (Fg iY (u.1.put v 0));obtain⟨x,W⟩:=iI (L u (List.mem_filter.1 C).1);simp only[vI,Bool.not_eq_true',decide_eq_false_iff_not,W]at D;have n:(pr:Rat)*cf Y.l (u.1.put v 0)=u.2:=n;rw[hy,W,<-iN,<-Rat.intCast_mul]at n;exact D (Int.emod_eq_zero_of_dvd ⟨y,(Rat.intCast_inj.1 n).symm⟩)
 ·exact kQ
theorem Sb(v t:Nat)(r:Rat):∀w,jc v t w (c r)=c r
 | 0=>rfl
 | w+1=>by simp only[jc];split<;>simp only[Sb v t r w,YE]
theorem G6(v t:Nat)(p:MP):∀w,w<=4->∀u,u<w->u≠v->(jc v t w p).fr u
 | 0,_,u,h,_=>by omega
 | w+1,hw,u,h,hne=>by
  simp only[jc];split
  ·rename_i e;exact G6 v t p w (by omega) u (by omega) hne
  ·rcases Nat.eq_or_lt_of_le (show u<=w by omega)with e|h1
   ·subst e;exact Nt _ _ _
   ·have b:(jc v t w p).deg u<=(0:Nat):=G6 v t p w oM u h1 hne;exact GY _ _ oM oM b
theorem XD(v i:Nat)(hv:v<4)(p:MP):cf (p.co v i).l e0=cf p.l (e0.put v i):=by
 show Lf _ (aN p.l v i)=Lf _ _;rw[fG];refine jJ λs _=>?_;by_cases h:s.1=e0.put v i
 ·rw[if_pos h,h,Ex.get_put,if_pos rfl,Ex.put_put,if_pos];have:=Ex.put_get e0 v;rw[BD]at this;exact this
 ·rw[if_neg h];by_cases b:s.1.get v=(i:Int)
  ·rw[if_pos b,if_neg λd=>h (by rw[<-d,Ex.put_put,<-b,Ex.put_get])]
  ·rw[if_neg b]
theorem YG{p:MP}(h:p.lo 0):p=c (cf p.l e0):=by
 obtain⟨r,rfl⟩:=ku h
 congr 1
 show r=cf (bZ r) e0;unfold bZ;split
 ·rename_i h;rw[h];rfl
 ·rw[bJ,jv,if_pos rfl];exact(Rat.add_zero _).symm
theorem Ue(v t i:Nat)(hv:v<4)(p:MP):(jc v t 4 p).co v i=c (cf (jc v t 4 p).l (e0.put v i)):=by
 rw[<-XD v i hv];refine YG λw _ b=>?_;by_cases h:w=v
 ·subst h;exact co_fr _ _ _
 ·exact UI b hv (G6 v t p 4 (nL _) w b h)
def JI:List ai->Nat
 | []=>1
 | t::l=>t.2.den*JI l
theorem FD:∀l,0<JI l
 | []=>Nat.one_pos
 | t::l=>Nat.mul_pos t.2.den_pos (FD l)
theorem JJ:∀{l:List ai},∀t∈l,Dv (JI l) t.2
 | s::l,t,h=>by
  rcases List.mem_cons.1 h with rfl|h
  ·exact(GJ _).dvd (Nat.dvd_mul_right _ _)
  ·exact(JJ t h).dvd (Nat.dvd_mul_left _ _)
theorem DI{v t:Nat}:∀{l:List ai}{out x:List Nat},jr v t l out=some x->¬pr∣JI l
 | [],_,_,_=>by decide
 | m::l,out,x,h=>by
  rw[jr]at h;split at h
  ·cases h
  ·rename_i d;have i:=DI h;intro hd;rcases DC DD hd with h1|h1
   ·apply d;have e:=yj (m.2.den:Int);have j:=qj (m.2.den:Int);obtain⟨a,ha⟩:=h1;obtain⟨b,hb⟩:=e;rw[jq]at ha;omega
   ·exact i h1
theorem vC{v t:Nat}:∀{l:List ai}{out x:List Nat},jr v t l out=some x->(∀y∈out,y<pr)->∀y∈x,y<pr
 | [],out,x,h,ho=>by simp only[jr,sJ]at h;subst h;exact ho
 | m::l,out,x,h,ho=>by
  rw[jr]at h;split at h
  ·cases h
  ·refine vC h λy b=>?_;rcases List.mem_or_eq_of_mem_set b with b|rfl
   ·exact ho y b
   ·exact Nat.mod_lt _ (by decide)
theorem YY{N:Nat}(h:¬pr∣N):∃M K:Int,(N:Int)*M=1+(pr:Int)*K:=by have i:0<N%pr:=Nat.pos_of_ne_zero λe=>h (Nat.dvd_of_mod_eq_zero e);have d:N%pr<pr:=Nat.mod_lt _ dM;have j:=LY i d;have b:=Cg.mod (jC (N%pr) (pr - 2)*(N%pr));rw[j]at b;have l:=Cg.mod N;have m:=(Cg.refl ((jC (N%pr) (pr - 2):Nat):Int)).mul l;rw[Int.natCast_mul]at b;obtain⟨k,n⟩:=(b.trans m).symm;exact⟨jC (N%pr) (pr - 2),k,by rw[jq];rw[Int.mul_comm];exact n⟩
structure Im (v:Nat) (d:MP) (F:MP) (x:List Nat):Prop where
 g:Gd v F x
 ne:x≠[]
 i:F.dv 1
 l:¬Dw pr (F.lc v)
 dg:F.deg v=d.deg v
theorem UX{D:Nat}{p:MP}(h:p.dv D)(v n:Nat):(p.co v n).dv D:=λt b=>by have b:t∈(p.l.filter λu=>u.1.get v=(n:Int)).map λu=>(u.1.put v 0,u.2):=b;obtain⟨u,hu,rfl⟩:=List.mem_map.1 b;exact h u (List.mem_filter.1 hu).1
theorem Sc{v t:Nat}(hv:v<4){a d:MP}(ha:a≠0)(he:∀m∈a.l,∀w,m.1.get w<18446744073709551616){r:Rat}(hr:r≠0)(hp:pz (c r*d))(hd:d∣a){x:List Nat}(hx:iZ a.l v t=some x)(hf:iw (some x)=true) :
  Im v d (jc v t 4 (c r*d)) x:=by
 obtain⟨e,rfl⟩:=hd;have I:=DI hx;obtain⟨N,hN⟩:∃N,N=JI (d*e).l:=⟨_,rfl⟩;rw[<-hN]at I;have a3:0<N:=by rw[hN];exact FD _
 have H:(d*e).dv N:=by rw[hN];exact λt ht=>JJ t ht
 obtain⟨D,hD⟩:∃D,D=c r*d:=⟨_,rfl⟩;rw[<-hD]at hp ⊢;obtain⟨E,hE⟩:∃E,E=c ((N:Rat)*r⁻¹)*e:=⟨_,rfl⟩
 have hA:c (N:Rat)*(d*e)=D*E:=by
  rw[hD,hE]
  have O:c r*c ((N:Rat)*r⁻¹)=c (N:Rat):=by rw[mg];congr 1;have:=Rat.mul_inv_cancel _ hr;grind
  rw[<-O];grind
 have iE:E.dv 1:=LW (ry H) hp hA
 have o:c (N:Rat)*jc v t 4 (d*e)=jc v t 4 D*jc v t 4 E:=by rw[<-yg,<-hA,yg v t 4 (c (N:Rat)),Sb]
 have d0:d≠0:=λh=>ha (by rw[h];grind);have G:e≠0:=λh=>ha (by rw[h];grind);have a9:=deg_pos ha v;have n:(List.replicate (aD (d*e).l v+1).toNat 0).length=((d*e).deg v+1).toNat:=by rw[List.length_replicate];rfl
 obtain⟨L,hL⟩:∃L,L=((d*e).deg v+1).toNat:=⟨_,rfl⟩;rw[<-hL]at n
 obtain⟨O,h2⟩:=JG (N:=N) hv hx (d*e).v.nat he H λm hm=>by rw[n];have:=eU hm v;have h':(d*e).deg v=aD (d*e).l v:=rfl;have:=Ex.nat_get ((d*e).v.nat m hm) v;omega
 rw[n]at O h2
 have hz:∀i,c (N:Rat)*(jc v t 4 (d*e)).co v i=c ((cS N v t i (d*e).l:Int):Rat):=λi=>by rw[Ue v t i hv,mg,Ua v t hv,UV H]
 have a7:∀i,L<=i->x.getD i 0=0:=λi q=>by rw[jD,gN oM];rfl
 have S:∀i,L<=i->(jc v t 4 (d*e)).co v i=0:=λi q=>co_above (by
  have:=uI v t hv 4 (nL _) (p:=d*e) (u:=v) (d:=((d*e).deg v).toNat) hv oM;omega)
 have X:∀y∈x,y<pr:=vC hx λy hy=>by rw[(List.mem_replicate.1 hy).2];decide
 have a6:x≠[]:=λh=>by rw[h]at O;simp at O;omega
 have b:x.getD (x.length-1) 0≠0:=of_decide_eq_true hf
 -- the congruence of polynomials
 have ⟨k,W⟩:∃k:Nat->Int,∀i,i<L->(N:Int)*x.getD i 0=cS N v t i (d*e).l+2147483647*k i :=
  ⟨λi=>((N:Int)*x.getD i 0-cS N v t i (d*e).l)/2147483647,λi q=>by
   obtain⟨k,W⟩:=h2 i q;rw[DF]at W
   simp only[W];omega⟩
 have J:c (N:Rat)*qH v x=c (N:Rat)*jc v t 4 (d*e)+c (pr:Rat)*cK (λi=>c (k i:Rat)*xk v i) L:=L6 v λi=>by
  have hK:(cK (λi=>c (k i:Rat)*xk v i) L).co v i=if i<L then c (k i:Rat)else 0:=by
   rw[rZ];split
   ·rename_i hj;rw[qc _ hj λj _ q=>by rw[co_mul_fr (ow _ _),fH,if_neg (Ne.symm q)];grind];rw[co_mul_fr (ow _ _),fH,if_pos rfl];grind
   ·rename_i hj;rw[dF (g:=λ_=>0) λj hj=>by rw[co_mul_fr (ow _ _),fH,if_neg oM];grind,mY]
  rw[co_add,co_mul_fr (ow _ _),co_mul_fr (ow _ _),co_mul_fr (ow _ _),hK,nW];rcases Nat.lt_or_ge i L with q|q
  ·rw[if_pos q,hz,mg,mg,<-UW];congr 1;have:=congrArg (λz:Int=>(z:Rat)) (W i q);simp only[Rat.intCast_add,Rat.intCast_mul,iN]at this;rw[this,jq];rfl
  ·rw[if_neg oM,S i q,a7 i q];have e1:c ((0:Nat):Rat)=0:=rfl;rw[e1];grind
 obtain⟨M,K,a2⟩:=YY I
 have a0:Ud v (jc v t 4 D) x:=by
  refine⟨c (M:Rat)*jc v t 4 E,c (M:Rat)*cK (λi=>c (k i:Rat)*xk v i) L-c (K:Rat)*qH v x,jf (wG 1 _) (yh v t 4 iE),CP (jf (wG 1 _) (xU λi _=>jf (wG 1 _) (ND v i))) (jf (wG 1 _) (RY v x)),?_⟩
  have Z:c (N:Rat)*c (M:Rat)=1+c (pr:Rat)*c (K:Rat):=by rw[mg,mg,<-zZ,<-UW];congr 1;have:=congrArg (λz:Int=>(z:Rat)) a2;simp only[Rat.intCast_add,Rat.intCast_mul,iN]at this;exact this
  have h4:c (M:Rat)*(c (N:Rat)*qH v x)=c (M:Rat)*(jc v t 4 D*jc v t 4 E+c (pr:Rat)*cK (λi=>c (k i:Rat)*xk v i) L):=by rw[J,o]
  grind
 have s:¬Dw pr ((c (N:Rat)*jc v t 4 (d*e)).co v (L-1)):=λ⟨Y,iY,eY⟩=>by
  rw[co_mul_fr (ow _ _),hz]at eY;have Z:=congrArg (λg:MP=>cf g.l e0) eY
  have a4:∀r:Rat,cf (c r).l e0=r:=λr=>by
   show cf (bZ r) e0=r;unfold bZ;split
   ·rename_i h;rw[h];rfl
   ·rw[bJ,jv,if_pos rfl];exact Rat.add_zero _
  simp only[qF,a4]at Z;obtain⟨y,hy⟩:=iI (Fg iY e0);rw[hy,<-iN,<-Rat.intCast_mul]at Z;have h4:=Rat.intCast_inj.1 Z;have h5:=W (L - 1) oM
  have h6:pr∣N*x.getD (L-1) 0:=by refine Int.ofNat_dvd.1 ⟨y+k (L-1),?_⟩;rw[Int.natCast_mul,h5,h4,jq,Int.mul_add];rfl
  rcases DC DD h6 with h7|h7
  ·exact I h7
  ·rw[O]at b;have h8:=Nat.le_of_dvd (Nat.pos_of_ne_zero b) h7
   have h9:x.getD (L-1) 0<pr:=by rw[jD,gE (by omega:L-1<x.length)];exact X _ (List.getElem_mem _)
   omega
 have B:c (N:Rat)*jc v t 4 (d*e)≠0:=λh=>s (by rw[h];exact uG pr)
 have a5:(L-1:Nat)<=(c (N:Rat)*jc v t 4 (d*e)).deg v:=by
  rcases Int.lt_or_le ((c (N:Rat)*jc v t 4 (d*e)).deg v) (L - 1:Nat)with h|h
  ·exact absurd (by rw[co_above h];exact uG pr) s
  ·exact h
 have C:jc v t 4 D≠0:=λh=>B (by rw[o,h];grind);have F:jc v t 4 E≠0:=λh=>B (by rw[o,h];grind);have aa:D.deg v=d.deg v:=by rw[hD,deg_mul (wN hr) d0,uo (ow _ _) (wN hr)];omega
 have ab:E.deg v=e.deg v:=by have R:c ((N:Rat)*r⁻¹)≠0:=wN (jw (jH a3) λh=>by have:=Rat.mul_inv_cancel _ hr;rw[h]at this;grind);rw[hE,deg_mul R G,uo (ow _ _) R];omega
 have ag:=deg_mul d0 G v;have ac:=uI v t hv 4 (nL _) (p:=D) (u:=v) (d:=(D.deg v).toNat) hv oM;have ad:=uI v t hv 4 (nL _) (p:=E) (u:=v) (d:=(E.deg v).toNat) hv oM;have al:=deg_pos d0 v;have an:=deg_pos G v;rw[o,deg_mul C F]at a5;have a1:(jc v t 4 D).deg v=d.deg v:=oM;refine⟨⟨a0,λ_=>b,X⟩,a6,yh v t 4 hp.1,λa8=>s ?_,a1⟩;have:L-1=((jc v t 4 D).deg v).toNat+((jc v t 4 E).deg v).toNat:=oM;rw[o,this,vT v C F];exact Ns a8 (UX (yh v t 4 iE) _ _)
theorem FE{v t:Nat}(hv:v<4){a b d:MP}(ha:a≠0)(hb:b≠0)(o:∀m∈a.l,∀w,m.1.get w<18446744073709551616)(p:∀m∈b.l,∀w,m.1.get w<18446744073709551616)(h:d∣a)(k:d∣b){x y:List Nat}
  (E:iZ a.l v t=some x) (q:iw (some x)=true) (F:iZ b.l v t=some y) (s:iw (some y)=true) {n:Nat} (j:nz x y=some n):d.deg v+1<=n:=by
 obtain⟨r,z,hp⟩:=RH (dvd_ne ha h);have e:=Sc hv ha o z hp h E q;have u:=Sc hv hb p z hp k F s
 have key:∃l,Gd v (jc v t 4 (c r*d)) l/\l≠[]/\l.length=n:=by
  unfold nz at j;split at j
  ·exact Gd.share j u.g e.g u.ne
  ·exact Gd.share j e.g u.g e.ne
 obtain⟨l,B,C,D⟩:=key;have:=B.len C e.i e.l;rw[e.dg,D]at this;omega
theorem uJ{v:Nat}(hv:v<4){a b d:MP}(ha:a≠0)(hb:b≠0)(j:∀m∈a.l,∀w,m.1.get w<18446744073709551616)(o:∀m∈b.l,∀w,m.1.get w<18446744073709551616)(e:d∣a)(i:d∣b) :
  ∀{l:List Nat}{m:Int},jU a.l b.l v l=some m->d.deg v<=m
 | [],m,h=>by simp only[jU,sJ]at h;have s:=dvd_deg ha e v;have u:=dvd_deg hb i v;have e1:a.deg v=aD a.l v:=rfl;have r:b.deg v=aD b.l v:=rfl;omega
 | k::l,m,h=>by
  rw[jU]at h;split at h
  ·rename_i x y p q;split at h
   ·rename_i hf;rw[Bool.and_eq_true]at hf
    cases hs:nz x y with
    | none=>rw[hs]at h;cases h
    | some n =>
     rw[hs]at h;have h:some ((n:Int)-1)=some m:=h;have h:=Option.some.inj h;have:=FE hv ha hb j o e i p hf.1 q hf.2 hs;omega
   ·exact uJ hv ha hb j o e i h
  ·exact uJ hv ha hb j o e i h
theorem JK{b:List Nat}(hb:b≠[])(s:Tp b)(hm:∀x∈b,x<pr):∀(n:Nat)(r:List Nat),r.length<n->(∀x∈r,x<pr)->∃x,kX b (jC (b.getD (b.length-1) 0) (pr-2)) n r=some x/\x.length<b.length
 | 0,_,h,_=>by omega
 | n+1,r,h,hr=>by
  rw[kX];have E:=List.length_pos_iff.2 hb;split
  ·rename_i kQ;obtain⟨f,hf⟩:∃f,f=r.getD (r.length - 1) 0*jC (b.getD (b.length - 1) 0) (pr - 2)%pr:=⟨_,rfl⟩;rw[<-hf]
   have G:(strip (fC b r f (r.length-b.length) b.length)).length<r.length:=by
    have p:=Sa (l:=fC b r f (r.length-b.length) b.length) (λe=>by have:=rA b r f (r.length-b.length) b.length;rw[e]at this;simp at this;omega) (by
     rw[rA,zC b.length oM,if_pos oM,(oM:r.length - 1 - (r.length - b.length)=b.length - 1)];have d:=s hb;obtain⟨y,u⟩:∃y,y=b.getD (b.length - 1) 0:=⟨_,rfl⟩;have o:y<pr:=by rw[u,jD,gE (by omega:b.length - 1<b.length)];exact hm _ (List.getElem_mem _)
     rw[<-u]at d hf ⊢;obtain⟨z,hz⟩:∃z,z=r.getD (r.length - 1) 0:=⟨_,rfl⟩;rw[<-hz]at hf ⊢;have q:=LY (Nat.pos_of_ne_zero d) o;obtain⟨i,m⟩:∃i,i=jC y (pr - 2):=⟨_,rfl⟩;rw[<-m]at q hf;have c1:=Cg.mod (z*i);rw[<-hf]at c1;have c2:=Cg.mod (i*y);rw[q]at c2
     have D:Cg ((z+(pr-y)*f:Nat):Int) 0:=by
      rw[Int.natCast_add,Int.natCast_mul,Int.ofNat_sub oM];obtain⟨B,j⟩:=c1;obtain⟨C,k⟩:=c2;rw[Int.natCast_mul]at j k;refine⟨f - y*B+z*C,?_⟩;rw[jq];have e1:(y:Int)*f=y*(z*i+2147483647*B):=by rw[j]
      have F:(z:Int)=z*(i*y+2147483647*C):=by rw[<-k];omega
      grind
     exact Nat.mod_eq_zero_of_dvd (Int.ofNat_dvd.1 (by rw[jq];exact D.zero)))
    rw[rA]at p;exact p
   exact JK hb s hm n _ oM (zB (vB hr _))
  ·exact⟨r,rfl,oM⟩
theorem Gd.tp_rest{b:List Nat}(inv:Nat):∀{n:Nat}{r x:List Nat},kX b inv n r=some x->Tp r->(∀y∈r,y<pr)->Tp x/\∀y∈x,y<pr
 | 0,_,_,h,_,_=>by cases h
 | n+1,r,x,h,hr,hm=>by
  rw[kX]at h;split at h
  ·exact Gd.tp_rest inv h (yl _) (zB (vB hm _))
  ·simp only[sJ]at h;subst h;exact⟨hr,hm⟩
theorem wO:∀(n:Nat)(a b:List Nat),b.length<n->a.length<fuel->b.length<fuel->Tp a->Tp b->(∀x∈a,x<pr)->(∀x∈b,x<pr)->∃k,il n a b=some k
 | 0,_,_,h,_,_,_,_,_,_=>by omega
 | n+1,a,b,h,ha,hb,ta,tb,ma,mb=>by
  rw[il];split
  ·exact⟨_,rfl⟩
  ·rename_i e;obtain⟨x,i,j⟩:=JK e tb mb fuel a ha ma;have d:=Gd.tp_rest _ i ta ma;rw[i];exact wO n b x oM hb oM tb d.1 mb d.2
theorem Ba{a:List ai}{v t:Nat}{x:List Nat}(h:iZ a v t=some x):x.length=(aD a v+1).toNat:=by
 have key:∀{l:List ai}{out x:List Nat},jr v t l out=some x->x.length=out.length:=by
  intro l
  induction l with
  | nil=>intro out x h;simp only[jr,sJ]at h;subst h;rfl
  | cons m l b =>
   intro out x h;rw[jr]at h;split at h
   ·cases h
   ·rw[b h,List.length_set]
 rw[key h,List.length_replicate]
theorem sQ{a b:List ai}{v:Nat}(ha:aD a v+1<fuel)(hb:aD b v+1<fuel):∀l,∃m,jU a b v l=some m
 | []=>⟨_,rfl⟩
 | k::l=>by
  rw[jU];split
  ·rename_i x y e d;split
   ·rename_i hf;rw[Bool.and_eq_true]at hf;have q:=Ba e;have r:=Ba d;have j:Tp x:=λ_=>of_decide_eq_true hf.1;have ty:Tp y:=λ_=>of_decide_eq_true hf.2;have h:∀z∈x,z<pr:=vC e λy d=>by rw[(List.mem_replicate.1 d).2];decide
    have i:∀z∈y,z<pr:=vC d λy d=>by rw[(List.mem_replicate.1 d).2];decide
    have o:0<fuel:=dM
    have key:∃n,nz x y=some n:=by
     unfold nz;split
     ·exact wO fuel y x oM oM oM ty j i h
     ·exact wO fuel x y oM oM oM j ty h i
    obtain⟨n,p⟩:=key;rw[p];exact⟨_,rfl⟩
   ·exact sQ ha hb l
  ·exact sQ ha hb l
end Q
end
section
namespace Q
open MP Go.Proofs.YtopclbeomcggiaaGreat
theorem zD(D:List (List ai)):∀(f:Nat)(R:List (List ai)),R.length<=D.length-1+f->(gm D f R).length<=max (D.length-1) 0
 | 0,R,h=>by simp only[gm];omega
 | f+1,R,h=>by
  unfold gm;by_cases b:D.length-1<R.length
  ·rw[if_pos b];exact zD D f _ (by rw[gY];omega)
  ·rw[if_neg b];omega
def Uf (v:Nat) (L:List (List ai)):Prop:=∀c∈L,∀t∈c,t.1.get v=0
theorem Uf.get{v:Nat}{L:List (List ai)}(h:Uf v L)(i:Nat):∀t∈L.getD i [],t.1.get v=0:=by
 rw[jD]
 cases hi:L[i]? with
 | none=>intro t b;cases b
 | some c=>exact h c (List.mem_of_getElem? hi)
theorem G7{v:Nat}{p q:List ai}(hp:∀t∈p,t.1.get v=0)(hq:∀t∈q,t.1.get v=0):∀t∈aX p q,t.1.get v=0 :=
 lw (P:=λe=>e.get v=0) λt d=>by obtain⟨a,ha,b,hb,rfl⟩:=mQ d;show(a.1.add b.1).get v=0;rw[Ex.get_add,hp a ha,hq b hb];rfl
theorem Ug{v:Nat}{p q:List ai}(hp:∀t∈p,t.1.get v=0)(hq:∀t∈q,t.1.get v=0):∀t∈gH p q,t.1.get v=0 :=
 lw (P:=λe=>e.get v=0) λt d=>by
  rcases List.mem_append.1 d with h|h
  ·exact hp t h
  ·obtain⟨s,b,rfl⟩:=zm h;exact hq s b
theorem Po{v:Nat}{D R:List (List ai)}(b:Uf v D)(d:Uf v R):Uf v (fO D R):=λc hc=>by
 simp only[fO,List.mem_map]at hc;obtain⟨i,-,rfl⟩:=hc;split
 ·exact Ug (G7 (d.get _) (b.get _)) (G7 (d.get _) (b.get _))
 ·exact G7 (d.get _) (b.get _)
theorem DJ{v:Nat}{D:List (List ai)}(b:Uf v D):∀(f:Nat)(R:List (List ai)),Uf v R->Uf v (gm D f R)
 | 0,_,h=>h
 | f+1,R,h=>by unfold gm;split;exact DJ b f _ (Po b h);exact h
theorem FH(p:List ai)(v:Nat):Uf v (aA p v):=λc hc t b=>by obtain⟨n,rfl⟩:=eu hc;obtain⟨u,_,rfl⟩:=List.mem_map.1 b;exact Ex.get_put _ _ _
theorem wP{p:List ai}(h:bR p)(v:Nat):Aw (aA p v):=λc hc=>by obtain⟨n,rfl⟩:=eu hc;exact h.coeff v n
def oC (v:Nat) (a b:MP):MP:=⟨tO (gm (aA b.l v) (aA a.l v).length (aA a.l v)) v,fA _⟩
theorem Sd{a b:MP}{v:Nat}{r:List ai}(h:SH a.l b.l v=some r):r=(oC v a b).l/\b≠0:=by
 unfold SH at h;simp only at h;split at h
 ·rename_i hc;exact⟨(jS h).1,λe=>hc.1 (by rw[e];rfl)⟩
 ·cases h
theorem L9(x:Pt)(v:Nat){L:List (List ai)}(h:Aw L):ev x (tO L v)=Rc x v L:=F5 x v λc hc=>(h c hc).nat
theorem FI{a b:MP}(hb:b≠0)(v:Nat):∃(q:MP)(s:Nat),(b.lc v)^s*a=q*b+oC v a b/\(oC v a b).deg v<=b.deg v-1:=by
 have k:=wP b.v v;have j:=wP a.v v;have r:=deg_pos hb v;have d:(aA b.l v).length=(b.deg v).toNat+1:=by rw[dS];have e:aD b.l v=b.deg v:=rfl;omega
 have kQ:(aA a.l v).length<=(aA b.l v).length-1+(aA a.l v).length:=oM;refine⟨⟨Af v (aA b.l v) (aA a.l v).length (aA a.l v),Fj _ _ _ _⟩,(aA a.l v).length-((aA b.l v).length-1),MP.ext' λx=>?_,?_⟩
 ·have h:=Ni x v k oM (aA a.l v).length (aA a.l v) j kQ;have m:Rc x v (aA a.l v)=ev x a.l:=by rw[<-L9 x v j,zT a.v]
  have n:Rc x v (aA b.l v)=ev x b.l:=by rw[<-L9 x v k,zT b.v]
  have o:Rc x v (gm (aA b.l v) (aA a.l v).length (aA a.l v))=MP.ev x (oC v a b):=(L9 x v (zo _ _ _ j)).symm
  have el:ev x ((aA b.l v).getD ((aA b.l v).length-1) [])=MP.ev x (b.lc v):=by rw[d,Nat.add_sub_cancel,zS (by have e:aD b.l v=b.deg v:=rfl;omega)];rfl
  rw[m,n,o,el]at h;rw[MP.ev_add,MP.ev_mul,MP.ev_mul,MP.ev_pow];show _*ev x a.l=ev x (Af v (aA b.l v) _ _)*ev x b.l+_;grind
 ·obtain⟨L,hL⟩:∃L,L=gm (aA b.l v) (aA a.l v).length (aA a.l v):=⟨_,rfl⟩;have z:=zD (aA b.l v) (aA a.l v).length (aA a.l v) kQ;have hf:=DJ (FH b.l v) (aA a.l v).length (aA a.l v) (FH a.l v);have hv:=zo (aA b.l v) (aA a.l v).length (aA a.l v) j
  have e:oC v a b=cK (λi=>⟨(gm (aA b.l v) (aA a.l v).length (aA a.l v)).getD i [],hv.get i⟩*xk v i) (gm (aA b.l v) (aA a.l v).length (aA a.l v)).length:=MP.ext' λx=>by rw[F8];show ev x (tO _ v)=_;rw[F5 x v λc hc=>(hv c hc).nat];refine lT λi _=>?_;rw[MP.ev_mul,ev_xk];rfl
  rw[e];refine qd oM λi y=>?_;have p:(⟨(gm (aA b.l v) (aA a.l v).length (aA a.l v)).getD i [],hv.get i⟩:MP).fr v:=UC (hf.get i);have u:=bT v _ (xk v i) p (Int.le_of_eq (deg_xk v i)) oM;omega
theorem zF{b g:List ai}{gt:ai}(hb:bR b)(hg:b=gt::g):∀{n:Nat}{a out res:List ai},bR a->dO out->rf b gt n a out=some (some res)->dO res/\∀x,ev x res*ev x b=ev x out*ev x b+ev x a
 | 0,_,_,_,_,_,h=>by simp[rf]at h
 | n+1,[],out,res,_,ho,h=>by simp only[rf,sJ]at h;subst h;exact⟨ho,λx=>by rw[jh];grind⟩
 | n+1,m::a,out,res,ha,ho,h=>by
  rw[rf]at h;split at h
  ·split at h
   ·rename_i i;split at h
    ·have hq:dO [gI m gt]:=λt j=>by rw[List.mem_singleton.1 j];exact i
     obtain⟨d,e⟩:=zF hb hg (bR.sub _ _) (ho.append hq) h;refine⟨d,λx=>?_⟩;rw[e x,oW,Q.ev_sub x ha.nat (bR.mul _ _),Q.ev_mul x hb.nat hq];grind
    ·cases h
   ·cases h
  ·cases h
theorem FJ{b g:List ai}{gt:ai}(hb:bR b)(hg:b=gt::g):∀{n:Nat}{a out:List ai},bR a->rf b gt n a out=some none->∀q,bR q->a≠aX q b
 | 0,_,_,_,h=>by simp[rf]at h
 | n+1,[],out,_,h=>by simp[rf]at h
 | n+1,m::a,out,ha,h=>by
  intro q hq e;subst hg;have hz:=(hb.2 gt sM).1
  cases q with
  | nil=>cases e
  | cons x s =>
   have l:=hq.2 x sM;obtain⟨p,r⟩:=AZ hq hb;obtain⟨a',d⟩:=AY (bR.mul _ _) (jw l.1 hz) p r;rw[d]at e;have o:m=(x.1.add gt.1,x.2*gt.2):=(List.cons.inj e).1;have i:gI m gt=x:=by rw[o];exact CK hz
   have k:(m.1.sub gt.1).nat=true:=by
    have:(gI m gt).1=x.1:=by rw[i]
    show(gI m gt).1.nat=true;rw[this];exact l.2
   rw[rf]at h;split at h
   ·split at h
    ·have j:=CL hq hb bR.nil;have e0:pO (aX (x::s) (gt::g)) []=aX (x::s) (gt::g):=yE (bR.add _ _) (bR.mul _ _) λy=>by rw[Q.ev_add y (bR.mul _ _).nat dO.nil,jh];grind
     have e1:pO (aX s (gt::g)) []=aX s (gt::g):=yE (bR.add _ _) (bR.mul _ _) λy=>by rw[Q.ev_add y (bR.mul _ _).nat dO.nil,jh];grind
     rw[e0,e1]at j;refine FJ hb rfl (bR.sub _ _) h s hq.tail ?_;rw[i,e,<-d,j]
    ·cases h
   ·cases h
theorem DK{a b q:MP}{r:List ai}(hb:b≠0)(e:a=q*b)(h:iU a.l b.l=some r):r=q.l:=by
 obtain⟨t,l,d⟩:=jg hb;unfold iU zu at h;rw[d]at h;simp only at h;split at h
 ·rename_i o k
  cases o with
  | none=>exact absurd (show a.l=aX q.l (t::l) by rw[<-d];exact congrArg MP.l e) (FJ (d▸b.v) rfl a.v k q.l q.v)
  | some j =>
   obtain⟨s,m⟩:=zF (d▸b.v) rfl a.v dO.nil k;obtain⟨i,n⟩:=jS h;have i:r=j:=i;subst i;have hv:bR r:=n.val
   have:(⟨r,hv⟩:MP)*b=q*b:=MP.ext' λx=>by rw[MP.ev_mul,<-e];have:=m x;rw[jh,<-d]at this;show ev x r*ev x b.l=ev x a.l;grind
   have p:b*(⟨r,hv⟩:MP)=b*q:=gR;exact congrArg MP.l (MP.cancel hb p)
 ·cases h
def hd (a:MP):Rat:=match a.l with
 | []=>0
 | t::_=>t.2
def nrm (a:MP):MP:=c (1/hd a)*a
theorem vN{a:MP}(h:a≠0):hd a≠0:=by obtain⟨t,l,e⟩:=jg h;have:=(a.v.2 t (by rw[e];simp)).1;unfold hd;rw[e];exact this
theorem sS{r:Rat}(b:r≠0)(a:MP):hd (c r*a)=hd a*r:=by
 unfold hd;rw[sO];show(match bN a.l r with|[]=>0|t::_=>t.2)=_;unfold bN;rw[if_neg b]
 cases a.l with
 | nil=>simp
 | cons t l=>rfl
theorem nC{a:MP}(h:a≠0):hd (nrm a)=1:=by
 have b:=vN h
 have d:(1:Rat)/hd a≠0:=λe=>by have:=Rat.div_mul_cancel (a:=1) b;rw[e]at this;grind
 rw[nrm,sS d];have:=Rat.div_mul_cancel (a:=1) b;grind
theorem jM:nrm 0=0:=by rw[nrm];grind
theorem fF{a:MP}(h:a≠0):nrm a∣a/\a∣nrm a:=by
 have b:=vN h;refine⟨⟨c (hd a),?_⟩,⟨c (1/hd a),by rw[nrm];grind⟩⟩;have d:c (1/hd a)*c (hd a)=1:=by rw[mg,Rat.div_mul_cancel b];rfl
 rw[nrm];grind
theorem ym{a:MP}{r:List ai}(h:jT a.l=some r):r=(nrm a).l:=by
 cases e:a.l with
 | nil =>
  rw[e]at h;simp only[jT,sJ]at h;rw[zero_iff.2 e,jM,<-h];rfl
 | cons t l =>
  rw[e]at h;simp only[jT]at h;rw[(jS h).1,nrm,sO];have:hd a=t.2:=by unfold hd;rw[e]
  rw[this];show _=bN a.l (1/t.2);rw[e]
theorem Ma{a b:MP}(ha:a≠0)(d:a∣b)(h:b∣a)(n1:hd a=1)(n2:hd b=1):a=b:=by obtain⟨u,rfl⟩:=d;have hu:=unit_cancel ha h;obtain⟨r,rfl⟩:=ku (Qx hu);have i:r≠0:=λe=>Gl hu (by rw[e];rfl);have e:a*c r=c r*a:=gR;rw[e,sS i,n1]at n2;have:r=1:=gR;rw[this,zZ];grind
structure NG (g a b:MP):Prop where
 i:lK g a b
 n:g≠0->hd g=1
theorem sU:GL=(1:MP).l:=by show [(e0,(1:Rat))]=bZ ((1:Nat):Rat);rw[show((1:Nat):Rat)=1 from rfl,bZ,if_neg dM]
theorem jI(a b:MP):a*b=b*a:=gR
theorem uK:hd 1=1:=by unfold hd;rw[<-sU];rfl
theorem wQ{a b:MP}(h:a.unit\/b.unit):lK 1 a b :=
 ⟨unit_dvd unit_one a,unit_dvd unit_one b,λd e i=>h.elim (λh=>unit_of_dvd e h) λh=>unit_of_dvd i h⟩
theorem vD{g a b:MP}(h:lK g a b)(i:g≠0):lK (nrm g) a b:=by obtain⟨e,j⟩:=fF i;exact⟨dvd_trans e h.l,dvd_trans e h.r,λd x y=>dvd_trans (h.u d x y) j⟩
theorem Sg{g:MP}(h:g≠0):nrm g≠0:=dvd_ne h (fF h).1
theorem JL{g a b:MP}(h:lK g a b)(d:a≠0):g≠0:=dvd_ne d h.l
theorem uL{g:MP}(h:lu g.l=true):g.unit:=by
 obtain⟨l,v⟩:=g
 cases l with
 | nil=>cases h
 | cons t l =>
  cases l with
  | cons _ _=>cases h
  | nil =>
   have he:t.1=e0:=of_decide_eq_true h
   have:(⟨[t],v⟩:MP)=c t.2:=MP.eq_of (by
    show [t]=bZ t.2
    rw[bZ,if_neg (v.2 t sM).1,<-he])
   rw[this];exact yX (v.2 t sM).1
def NE (G:List ai->List ai->Option (List ai)):Prop:=∀(a b:MP)(r:List ai),G a.l b.l=some r->∃g:MP,r=g.l/\NG g a b
theorem NF{G:List ai->List ai->Option (List ai)}(q:NE G):∀(L:List (List ai))(b:MP)(r:List ai),Aw L->(b≠0->hd b=1)->uD G b.l L=some r ->
  ∃g:MP,r=g.l/\g∣b/\(∀(f:MP),f.l∈L->g∣f)/\(∀d,d∣b->(∀f:MP,f.l∈L->d∣f)->d∣g)/\(g≠0->hd g=1)
 | [],b,r,_,hn,h=>by simp only[uD,sJ]at h;exact⟨b,h.symm,dvd_refl _,λf hf=>(by cases hf),λd h _=>h,hn⟩
 | a::L,b,r,hv,hn,h=>by
  rw[uD]at h;have ha:bR a:=hv a sM;split at h
  ·cases h
  ·rename_i x p;obtain⟨g,rfl,hg⟩:=q b ⟨a,ha⟩ x p;have o:∀f:MP,f.l=a->f=⟨a,ha⟩:=λf e=>MP.eq_of e;split at h
   ·rename_i hc;simp only[sJ]at h;have hu:=uL hc;refine⟨g,h.symm,hg.i.l,λf _=>unit_dvd hu f,λd m j=>hg.i.u d m (j ⟨a,ha⟩ sM),hg.n⟩
   ·obtain⟨k,e,s,y,z,B⟩:=NF q L g r (λc hc=>hv c (by simp[hc])) hg.n h;refine⟨k,e,dvd_trans s hg.i.l,λf hf=>?_,λd m j=>z d (hg.i.u d m (j ⟨a,ha⟩ sM)) λf hf=>j f (by simp[hf]),B⟩;rcases List.mem_cons.1 hf with e|hf
    ·rw[o f e];exact dvd_trans s hg.i.r
    ·exact y f hf
theorem qw{G:List ai->List ai->Option (List ai)}(q:NE G){a:MP}{v:Nat}{r:List ai}(h:mG G a.l v=some r):∃g:MP,r=g.l/\um v g a/\(g≠0->hd g=1):=by
 obtain⟨g,e,s,m,k,o⟩:=NF q _ (0:MP) r (wP a.v v) (λh=>absurd rfl h) h
 have b:∀n,g∣a.co v n:=λn=>by
  rcases Nat.lt_or_ge n (aD a.l v+1).toNat with i|i
  ·refine m _ ?_;show aN a.l v n∈aA a.l v;exact List.mem_map.2 ⟨n,List.mem_range.2 i,rfl⟩
  ·rw[co_above (by have e:a.deg v=aD a.l v:=rfl;have:=deg_ge v a;omega)];exact dvd_zero g
 have hf:g.fr v:=by
  by_cases ha:a=0
  ·have:g=0:=by
    have p:=k 0 (dvd_refl 0) λf hf=>by rw[ha]at hf;cases hf
    exact zero_dvd p
   rw[this];exact oJ v
  ·exact rW (lc_ne ha v) (b _) (lc_fr v a)
 refine⟨g,e,⟨hf,(dvd_iff_co hf a).2 b,λd hd j=>k d (dvd_zero d) λf hf=>?_⟩,o⟩;obtain⟨n,i⟩:=eu hf;have:f=a.co v n:=MP.eq_of i;rw[this];exact(dvd_iff_co hd a).1 j n
theorem Si{G:List ai->List ai->Option (List ai)}(j:NE G){a:MP}{v:Nat}{r:List ai}(d:a≠0)(h:kW G a.l v=some r):∃c q:MP,r=q.l/\a=c*q/\c≠0/\c.fr v/\q.prim v:=by
 obtain⟨t,l,i⟩:=jg d;unfold kW at h;rw[i]at h;simp only at h;rw[<-i]at h;split at h
 ·cases h
 ·rename_i c0 hc;obtain⟨g,rfl,hg,_⟩:=qw j hc;obtain⟨q,e,hq,b⟩:=jk hg d;exact⟨g,q,DK (q:=q) b (e.trans (jI g q)) h,e,b,hg.f,hq⟩
theorem vE{v:Nat}(hv:v<4){b:MP}(hb:b.lo (v+1)):∀s:Nat,((b.lc v)^s).lo v
 | 0=>by have e:(b.lc v)^0=1:=gR;rw[e];exact Cm v
 | s+1=>by have e:(b.lc v)^(s+1)=(b.lc v)^s*b.lc v:=gR;rw[e];exact kZ (vE hv hb s) (zY hv hb)
theorem G9{b:MP}(hb:b≠0):∀s:Nat,b^s≠0
 | 0=>by have e:b^0=1:=gR;rw[e];exact one_ne
 | s+1=>by have e:b^(s+1)=b^s*b:=gR;rw[e];exact mul_ne (G9 hb s) hb
theorem qx{n:Nat}{a b c:MP}(hb:b≠0)(hc:c≠0)(e:a=b*c)(h:a.lo n):c.lo n:=iA (by rw[e];exact mul_ne hb hc) (by rw[e];exact dvd_mul_left _ _) h
theorem Mc{n:Nat}{a:MP}(h:a.lo n):(nrm a).lo n:=by
 by_cases b:a=0
 ·rw[b,jM];exact MN n
 ·exact iA b (fF b).1 h
theorem Uh{v:Nat}(hv:v<4){a b q:MP}{s:Nat}(e:(b.lc v)^s*a=q*b+oC v a b)(y:b≠0)(ha:a.lo (v+1))(hb:b.lo (v+1)):(oC v a b).lo (v+1):=λw m k=>by
 -- the pseudo-remainder is made of the coefficients by ring operations
 have r:∀L:List (List ai),(∀c∈L,∀t∈c,t.1.get w=0)->∀D:List (List ai),(∀c∈D,∀t∈c,t.1.get w=0)->∀f,∀c∈gm D f L,∀t∈c,t.1.get w=0:=λL hL D x f=>DJ (v:=w) x f L hL
 have j:∀p:MP,p.lo (v+1)->∀c∈aA p.l v,∀t∈c,t.1.get w=0:=λp hp c hc t d=>by obtain⟨n,rfl⟩:=eu hc;obtain⟨u,hu,rfl⟩:=List.mem_map.1 d;show(u.1.put v 0).get w=0;rw[Ex.get_put_ne _ hv k oM];exact fr_get (hp w m k) (List.mem_filter.1 hu).1
 have o:=r _ (j a ha) _ (j b hb) (aA a.l v).length;refine UC ?_
 have hL:∀(L:List (List ai))(i:Nat),(∀c∈L,∀t∈c,t.1.get w=0)->∀t∈fromL v i L,t.1.get w=0:=λL=>by
  induction L with
  | nil=>intro i _ t d;cases d
  | cons c L z =>
   intro i h t d;simp only[fromL,List.mem_append]at d;rcases d with d|d
   ·obtain⟨u,hu,rfl⟩:=List.mem_map.1 d;show(u.1.put v _).get w=0;rw[Ex.get_put_ne _ hv k oM];exact h c sM u hu
   ·exact z (i+1) (λc hc=>h c (by simp[hc])) t (by simpa using d)
 exact lw (P:=λe=>e.get w=0) (hL _ 0 o)
theorem JM{G:List ai->List ai->Option (List ai)}(M:NE G){v:Nat}(hv:v<4):∀(n:Nat)(a b:MP)(r:List ai),a.lo (v+1)->b.lo (v+1)->a.prim v->b.prim v->ru G v n a.l b.l=some r->∃s:MP,r=s.l/\lK s a b
 | 0,_,_,_,_,_,_,_,h=>by cases h
 | n+1,a,b,r,la,lb,pa,pb,h=>by
  have L:=yY v oM;have b0:=cZ pb;have a0:=cZ pa;rw[ru]at h;obtain⟨q,s,e,N⟩:=FI (a:=a) b0 v;have H:=vE hv lb s;have z:=G9 (lc_ne b0 v) s;have y:=Uh hv e b0 la lb;have i:∀d:MP,d.prim v->d∣b->d∣oC v a b->d∣a:=λd Y o m=>eB L hv la Y H z (by rw[e];exact dvd_add (dvd_mul_of' o q) m)
  have hrem:∀d:MP,d∣a->d∣b->d∣oC v a b:=λd o m=>by
   have S:oC v a b=(b.lc v)^s*a-q*b:=by rw[e];grind
   rw[S];exact dvd_sub (dvd_mul_of' o _) (dvd_mul_of' m _)
  split at h
  ·cases h
  ·rename_i hp;have hz:=(Sd hp).1;simp only[sJ]at h;have j:oC v a b=0:=zero_iff.2 hz.symm;exact⟨b,h.symm,i b pb (dvd_refl b) (by rw[j];exact dvd_zero b),dvd_refl b,λd _ h=>h⟩
  ·rename_i t l hp;have hz:=(Sd hp).1;have j:oC v a b≠0:=λW=>by rw[zero_iff.1 W]at hz;cases hz
   split at h
   ·rename_i E;simp only[sJ]at h;have X:(oC v a b).deg v=0:=by show aD (oC v a b).l v=0;rw[<-hz];exact E
    refine⟨1,by rw[<-h,sU],unit_dvd unit_one a,unit_dvd unit_one b,λd o m=>?_⟩;have hd:=dvd_deg j (hrem d o m) v;exact pb d (by show d.deg v<=0;omega) m
   ·rw[hz]at h;split at h
    ·cases h
    ·rename_i p I;obtain⟨c,Z,rfl,D,c0,cf,hq⟩:=Si M j I;split at h
     ·cases h
     ·rename_i k F;have F:=ym F;subst F;have R:=cZ hq;have O:=qx c0 R D y;obtain⟨C,K⟩:=fF R;obtain⟨x,ex,B⟩:=JM M hv n b (nrm Z) r lb (Mc O) pb (kC hq C) h;have J:c.lo v:=pY (iA j (by rw[D];exact dvd_mul_right _ _) y) cf;refine⟨x,ex,i x (kC pb B.l) B.l ?_,B.l,λd o m=>B.u d m (dvd_trans ?_ K)⟩
      ·rw[D];exact dvd_mul_of' (dvd_trans B.r C) c
      ·exact eB L hv O (kC pb m) J c0 (by rw[<-D];exact hrem d o m)
theorem NH{G:List ai->List ai->Option (List ai)}(z:NE G){v:Nat}(hv:v<4){a b:MP}{r:List ai}(wa:Wp a.l)(wb:Wp b.l)(D:a.lo (v+1))(lb:b.lo (v+1))(u:a.prim v)(pb:b.prim v)(h:Ay G a.l b.l v=some r):∃s:MP,r=s.l/\lK s a b:=by
 have y:=cZ u;have b0:=cZ pb;have hex:∀p:MP,Wp p.l->∀m∈p.l,∀w,m.1.get w<18446744073709551616:=λp hp m hm w=>by have:=(hp.exps hm w).2;omega
 unfold Ay at h;split at h
 ·cases h
 ·rename_i m hm;have n:∀d:MP,d∣a->d∣b->d.deg v<=m:=λd i j=>uJ hv y b0 (hex a wa) (hex b wb) i j hm;split at h
  ·rename_i B;simp only[sJ]at h;refine⟨1,by rw[<-h,sU],unit_dvd unit_one a,unit_dvd unit_one b,λd i j=>u d (by have:=n d i j;show d.deg v<=0;omega) i⟩
  ·split at h
   ·cases h
   ·rename_i o C;split at h
    ·rename_i hc;simp only[sJ]at h;rw[Bool.and_eq_true]at hc
     cases o with
     | none=>cases hc.1
     | some k =>
      obtain⟨t,l,q⟩:=jg b0;have e:=C;unfold zu at e;rw[q]at e;simp only at e;obtain⟨i,j⟩:=zF (q▸b.v) rfl a.v dO.nil e
      have hd:b∣a:=by refine⟨⟨canon k,fA _⟩,MP.ext' λx=>?_⟩;have:=j x;rw[jh,<-q]at this;rw[MP.ev_mul];show ev x a.l=ev x b.l*ev x (canon k);rw[nJ i];grind
      exact⟨b,h.symm,hd,dvd_refl b,λd _ h=>h⟩
    ·exact JM z hv _ a b r D lb u pb h
theorem DL{g a b:MP}(h:lK g a b):lK g b a:=⟨h.r,h.l,λd x y=>h.u d y x⟩
theorem NI{G:List ai->List ai->Option (List ai)}(d:NE G){v:Nat}(hv:v<4){a b:MP}{r:List ai}(wa:Wp a.l)(wb:Wp b.l)(i:a.lo (v+1))(lb:b.lo (v+1))(j:a.prim v)(pb:b.prim v)(h:Ep G a.l b.l v=some r):∃s:MP,r=s.l/\lK s a b:=by
 unfold Ep at h;split at h
 ·obtain⟨s,e,k⟩:=NH d hv wb wa lb i pb j h;exact⟨s,e,DL k⟩
 ·exact NH d hv wa wb i lb j pb h
theorem JN(a b:MP):∀(n:Nat),n<=4->(∀w,n<=w->w<4->a.fr w/\b.fr w)->∀v,sZ [a.l,b.l] n=some v->v<4/\a.lo (v+1)/\b.lo (v+1)
 | 0,_,_,v,h=>by cases h
 | n+1,hn,hf,v,h=>by
  rw[sZ]at h;split at h
  ·simp only[sJ]at h;subst h;exact⟨by omega,λw d i=>(hf w d i).1,λw d i=>(hf w d i).2⟩
  ·rename_i hc;refine JN a b n (by omega) (λw d i=>?_) v h;rcases Nat.eq_or_lt_of_le d with e|hlt
   ·subst e;simp only[List.any_cons,List.any_nil,Bool.or_false,Bool.or_eq_true,decide_eq_true_eq,not_or]at hc;exact⟨by show aD a.l n<=0;omega,by show aD b.l n<=0;omega⟩
   ·exact hf w hlt i
theorem JO{a b r:List ai}(h:iU a b=some r):Wp r:=by
 unfold iU at h;split at h
 ·have:=jS h;rw[this.1];exact this.2
 ·cases h
theorem lN{α b:Type}{o:Option α}{f:α->Option b}{y:b}(h:fD o f=some y):∃x,o=some x/\f x=some y:=by
 cases o with
 | none=>cases h
 | some x=>exact⟨x,rfl,h⟩
theorem Ui{G:List ai->List ai->Option (List ai)}(C:NE G):NE (Rn G):=λa b r h=>by
 unfold Rn at h;split at h
 ·rename_i ha;have ha:=zero_iff.2 ha;refine⟨nrm b,ym h,?_,λo=>nC λh0=>o (by rw[h0,jM])⟩;by_cases hb:b=0
  ·rw[hb,jM,ha];exact⟨dvd_refl _,dvd_refl _,λd h _=>h⟩
  ·exact⟨by rw[ha];exact dvd_zero _,(fF hb).1,λd _ h=>dvd_trans h (fF hb).2⟩
 ·rename_i ha;have m:a≠0:=λh=>ha (zero_iff.1 h);split at h
  ·rename_i hb;have hb:=zero_iff.2 hb;exact⟨nrm a,ym h,⟨(fF m).1,by rw[hb];exact dvd_zero _,λd h _=>dvd_trans h (fF m).2⟩,λ_=>nC m⟩
  ·rename_i hb;have b0:b≠0:=λh=>hb (zero_iff.1 h);split at h
   ·rename_i hc;simp only[sJ]at h;exact⟨1,by rw[<-h,sU],wQ (hc.imp uL uL),λ_=>uK⟩
   ·obtain⟨v,hv,h⟩:=lN h;obtain⟨M,Y,lb⟩:=JN a b 4 oM (λw j B=>oM) v hv;have N:=yY v oM;split at h
    ·rename_i hd;obtain⟨c,hc,h⟩:=lN h;obtain⟨k,rfl,K,_⟩:=qw C hc;obtain⟨g,e,hg⟩:=C k b r h;have R:b.fr v:=Int.le_of_eq hd;exact⟨g,e,⟨dvd_trans hg.i.l K.d,hg.i.r,λd j B=>hg.i.u d (K.u d (rW b0 B R) j) B⟩,hg.n⟩
    ·split at h
     ·rename_i hd;obtain⟨c,hc,h⟩:=lN h;obtain⟨k,rfl,K,_⟩:=qw C hc;obtain⟨g,e,hg⟩:=C a k r h;have O:a.fr v:=Int.le_of_eq hd;exact⟨g,e,⟨hg.i.l,dvd_trans hg.i.r K.d,λd j B=>hg.i.u d j (K.u d (rW m j O) B)⟩,hg.n⟩
     ·obtain⟨x0,hx,h⟩:=lN h;obtain⟨y0,hy,h⟩:=lN h;obtain⟨g0,S,h⟩:=lN h;obtain⟨p0,hp,h⟩:=lN h;obtain⟨q0,hq,h⟩:=lN h;obtain⟨s0,hs,h⟩:=lN h;obtain⟨m0,hm,h⟩:=lN h;obtain⟨x,rfl,W,_⟩:=qw C hx;obtain⟨y,rfl,X,_⟩:=qw C hy;obtain⟨g,rfl,hg⟩:=C x y _ S;obtain⟨p,I,pp,F⟩:=jk W m;obtain⟨q,eq,pq,H⟩:=jk X b0;have Z:=JO hp;have a1:=JO hq;have e1:=DK (q:=p) F (I.trans (jI x p)) hp;have e2:=DK (q:=q) H (eq.trans (jI y q)) hq;subst e1;subst e2;have lp:=qx F (cZ pp) I Y;have lq:=qx H (cZ pq) eq lb;obtain⟨s,rfl,E⟩:=NI C M Z a1 lp lq pp pq hs;have hm:m0=(g*s).l:=(jS hm).1;subst hm;have lx:x.lo v:=pY (iA m (by rw[I];exact dvd_mul_right _ _) Y) W.f;have ly:y.lo v:=pY (iA b0 (by rw[eq];exact dvd_mul_right _ _) lb) X.f
      have D:lK (g*s) a b:=by
       refine⟨by rw[I];exact mul_dvd hg.i.l E.l,by rw[eq];exact mul_dvd hg.i.r E.r,λd j B=>?_⟩;have d0:=dvd_ne m j;obtain⟨e,z,rfl,he,a2,L,lz,_⟩:=kD N M (iA m j Y) d0;have J:e.fr v:=he v (nL _) M;refine mul_dvd (hg.i.u e ?_ ?_) (E.u z ?_ ?_)
       ·exact W.u e J (dvd_trans (dvd_mul_right _ _) j)
       ·exact X.u e J (dvd_trans (dvd_mul_right _ _) B)
       ·exact eB N M lp L lx F (by rw[<-I];exact dvd_trans (dvd_mul_left _ _) j)
       ·exact eB N M lq L ly H (by rw[<-eq];exact dvd_trans (dvd_mul_left _ _) B)
      have o:=JL D m;exact⟨nrm (g*s),ym h,vD D o,λ_=>nC o⟩
end Q
end
section
namespace Q
open MP
theorem yn{a:MP}{t:ai}{l:List ai}(h:a.l=t::l):hd a=t.2:=by unfold hd;rw[h]
theorem Hd{a b:MP}(ha:a≠0)(hb:b≠0):hd (a*b)=hd a*hd b:=by
 obtain⟨s,l,d⟩:=jg ha;obtain⟨t,r,h⟩:=jg hb;have i:bR (s::l):=d▸a.v;have j:bR (t::r):=h▸b.v;obtain⟨k,n⟩:=AZ i j;have hz:=jw (i.2 s sM).1 (j.2 t sM).1;obtain⟨m,hm⟩:=AY (bR.mul _ _) hz k n;have e:(a*b).l=aX (s::l) (t::r):=by show aX a.l b.l=_;rw[d,h]
 rw[yn (e.trans hm),yn d,yn h]
def NC (v:Nat) (g a:MP):Prop:=um v g a/\(g≠0->hd g=1)
end Q
end
section
namespace Q
open MP Go.Proofs.YtopclbeomcggiaaGreat
structure qO (D H:Nat) (p:MP):Prop where
 d:p.dv D
 a:(D:Rat)*p.am<=(H:Rat)
def In (b:Nat) (p:MP):Prop:=∃D H,0<D/\D<=2^b/\H<=2^b/\qO D H p
theorem bQ(n:Nat):(0:Rat)<=(n:Rat):=Rat.natCast_nonneg
theorem Ak{m n:Nat}(h:m<=n):(m:Rat)<=(n:Rat):=Rat.natCast_le_natCast.2 h
theorem qO.mono{D H b:Nat}{p:MP}(h:qO D H p)(e:H<=b):qO D b p:=⟨h.d,Rat.le_trans h.a (Ak e)⟩
theorem qO.mul{D H b e:Nat}{p q:MP}(h:qO D H p)(i:qO b e q):qO (D*b) (H*e) (p*q):=by refine⟨Ra h.d i.d,?_⟩;have j:=Rat.mul_le_mul_of_nonneg_left (CQ p q) (bQ (D*b));have k:=qC h.a i.a (Rat.mul_nonneg (bQ D) p.am_nonneg) (bQ e);rw[Rat.natCast_mul]at j ⊢;rw[Rat.natCast_mul];grind
theorem qO.sub{D H b:Nat}{p q:MP}(h:qO D H p)(e:qO D b q):qO D (H+b) (p-q):=by refine⟨CP h.d e.d,?_⟩;have i:=Rat.mul_le_mul_of_nonneg_left (Lc p q) (bQ D);have j:=h.a;have k:=e.a;rw[Rat.natCast_add];grind
theorem qO.up{D H:Nat}{p:MP}(h:qO D H p)(K:Nat):qO (D*K) (H*K) p:=by refine⟨TJ (Nat.dvd_mul_right _ _) h.d,?_⟩;have:=Rat.mul_le_mul_of_nonneg_right h.a (bQ K);rw[Rat.natCast_mul,Rat.natCast_mul];grind
theorem XE(v n:Nat)(p:MP):(p.co v n).am<=p.am:=by
 have e:bI (aN p.l v n)=bI (p.l.filter λt=>t.1.get v=(n:Int)):=by
  unfold aN;generalize p.l.filter _=l
  induction l with
  | nil=>rfl
  | cons u l b=>simp only[List.map_cons,bI,b]
 show bI (aN p.l v n)<=bI p.l;rw[e]
 have d:∀l:List ai,bI (l.filter λt=>t.1.get v=(n:Int))<=bI l:=λl=>by
  induction l with
  | nil=>exact Rat.le_refl
  | cons t l b =>
   have:=fM t.2;rw[List.filter_cons];split<;>simp only[bI]<;>grind
 exact d p.l
theorem qO.co{D H:Nat}{p:MP}(h:qO D H p)(v n:Nat):qO D H (p.co v n) :=
 ⟨UX h.d v n,Rat.le_trans (Rat.mul_le_mul_of_nonneg_left (XE v n p) (bQ D)) h.a⟩
theorem yo{l r:List ai}(h:r.Sublist l):bI r<=bI l:=by
 induction h with
 | slnil=>exact Rat.le_refl
 | cons t _ b=>have:=fM t.2;simp only[bI];grind
 | cons_cons t _ b=>simp only[bI];grind
theorem qO.part{D H:Nat}{p q:MP}(h:qO D H p)(b:q.l.Sublist p.l):qO D H q :=
 ⟨λt e=>h.d t (b.subset e),Rat.le_trans (Rat.mul_le_mul_of_nonneg_left (yo b) (bQ D)) h.a⟩
theorem qO.zero(D H:Nat):qO D H 0:=⟨GD D,by rw[Ng,Rat.mul_zero];exact bQ H⟩
namespace In
variable {b c:Nat} {p q:MP}
theorem mono(h:In b p)(hb:b<=c):In c p:=by obtain⟨D,H,d,i,j,e⟩:=h;have:=Nat.pow_le_pow_right (oM:0<2) hb;exact⟨D,H,d,oM,oM,e⟩
theorem mul(h:In b p)(i:In c q):In (b+c) (p*q):=by
 obtain⟨D,H,j,k,l,m⟩:=h;obtain⟨d,e,n,o,r,s⟩:=i;refine⟨D*d,H*e,Nat.mul_pos j n,?_,?_,m.mul s⟩
 ·rw[Nat.pow_add];exact Nat.mul_le_mul k o
 ·rw[Nat.pow_add];exact Nat.mul_le_mul l r
theorem co(h:In b p)(v n:Nat):In b (p.co v n):=by obtain⟨D,H,d,e,i,j⟩:=h;exact⟨D,H,d,e,i,j.co v n⟩
theorem part(h:In b p)(k:q.l.Sublist p.l):In b q:=by obtain⟨D,H,d,e,i,j⟩:=h;exact⟨D,H,d,e,i,j.part k⟩
theorem zero(b:Nat):In b 0:=⟨1,1,oM,Nat.one_le_two_pow,Nat.one_le_two_pow,qO.zero 1 1⟩
theorem one(b:Nat):In b 1:=⟨1,1,oM,Nat.one_le_two_pow,Nat.one_le_two_pow,VG 1,by rw[VH,Rat.mul_one];exact Rat.le_refl⟩
end In
theorem zI{p:MP}(h:p≠0):∃t∈p.l,hd p=t.2:=by obtain⟨t,l,e⟩:=jg h;exact⟨t,by rw[e];simp,yn e⟩
theorem NJ{p:MP}(h:p≠0):bH (hd p)<=p.am:=by obtain⟨t,b,e⟩:=zI h;rw[e];exact tN b
theorem qO.hd{D H:Nat}{p:MP}(h:qO D H p)(b:p≠0):qO D H (c (Q.hd p)):=by obtain⟨t,i,e⟩:=zI b;refine⟨Pd (by rw[e];exact h.d t i),?_⟩;rw[Je];exact Rat.le_trans (Rat.mul_le_mul_of_nonneg_left (NJ b) (bQ D)) h.a
theorem In.hd{b:Nat}{p:MP}(h:In b p)(d:p≠0):In b (c (Q.hd p)):=by obtain⟨D,H,e,i,j,k⟩:=h;exact⟨D,H,e,i,j,k.hd d⟩
theorem He{p:MP}(h:p≠0):hd p*(1/hd p)=1:=by have:=Rat.div_mul_cancel (a:=1) (vN h);grind
theorem qO.nrm{D H:Nat}{p:MP}(i:qO D H p)(x:0<D)(h:p≠0):∃z:Nat,0<z/\(z:Rat)=(D:Rat)*bH (Q.hd p)/\z<=H/\qO z H (Q.nrm p):=by
 obtain⟨z,hz⟩:∃z:Int,Q.hd p*(D:Rat)=(z:Rat):=by obtain⟨t,m,e⟩:=zI h;rw[e];exact i.d t m
 have j:(D:Rat)≠0:=jH x;have y:=vN h;have l:=He h
 have E:z≠0:=λe=>by rw[e]at hz;exact jw y j hz
 have b:((z.natAbs:Nat):Rat)=bH (z:Rat):=(Q.rabs_int z).symm;have o:bH (z:Rat)=(D:Rat)*bH (Q.hd p):=by rw[<-hz,jK,bO (bQ D)];grind
 have n:z.natAbs<=H:=by
  have e1:=Rat.mul_le_mul_of_nonneg_left (NJ h) (bQ D);have r:((z.natAbs:Nat):Rat)<=(H:Rat):=by rw[b,o];exact Rat.le_trans e1 i.a
  exact Rat.natCast_le_natCast.1 r
 refine⟨z.natAbs,oM,by rw[b,o],n,?_,?_⟩
 ·intro t m;obtain⟨s,C,rfl⟩:=Du m;obtain⟨k,B⟩:=i.d s C;have q:s.2*(1/Q.hd p)*(z:Rat)=(k:Rat):=by rw[<-hz,<-B];grind
  rcases Int.natAbs_eq z with e|e
  ·refine⟨k,?_⟩;show s.2*(1/Q.hd p)*((z.natAbs:Nat):Rat)=k;rw[<-iN,<-e];exact q
  ·refine⟨-k,?_⟩;show s.2*(1/Q.hd p)*((z.natAbs:Nat):Rat)=_;rw[<-iN,(oM:((z.natAbs:Nat):Int)=-z),Rat.intCast_neg,Rat.intCast_neg,<-q];grind
 ·show _*(c (1/Q.hd p)*p).am<=_;rw[sP,b,<-hz,jK,bO (bQ D)];have u:bH (Q.hd p)*bH (1/Q.hd p)=1:=by rw[<-jK,l];exact qZ
  have:bH (Q.hd p)*(D:Rat)*(bH (1/Q.hd p)*p.am)=(bH (Q.hd p)*bH (1/Q.hd p))*((D:Rat)*p.am):=gR;rw[this,u,Rat.one_mul];exact i.a
theorem In.nrm{b:Nat}{p:MP}(h:In b p):In b (Q.nrm p):=by
 by_cases d:p=0
 ·rw[d,jM];exact In.zero b
 obtain⟨D,H,e,m,i,j⟩:=h;obtain⟨z,k,-,n,l⟩:=j.nrm e d;exact⟨z,H,k,oM,i,l⟩
theorem yt{r:Rat}(d:r≠0)(f:MP):nrm (c r*f)=nrm f:=by
 by_cases h:f=0
 ·have e:c r*f=0:=by rw[h];grind
  rw[e,h]
 have b:=vN h;have j:hd f*r≠0:=jw b d;rw[nrm,nrm,sS d]
 have e:(1:Rat)/(hd f*r)*r=1/hd f:=by
  have e1:=Rat.div_mul_cancel (a:=1) j;have k:=Rat.div_mul_cancel (a:=1) b;have l:(1:Rat)/(hd f*r)*r*hd f=1/hd f*hd f:=gR;have i:((1:Rat)/(hd f*r)*r - 1/hd f)*hd f=0:=gR;rcases Rat.mul_eq_zero.1 i with h|h
  ·grind
  ·exact absurd h b
 rw[<-e,<-mg];grind
def Dg (d:Nat->Nat) (p:MP):Prop:=∀w,w<4->p.deg w<=d w
theorem Dg.mono{d e:Nat->Nat}{p:MP}(h:Dg d p)(hd:∀w,d w<=e w):Dg e p:=λw b=>by have:=h w b;have:=hd w;omega
theorem Dg.dvd{d:Nat->Nat}{p q:MP}(h:Dg d p)(b:p≠0)(hq:q∣p):Dg d q:=λw e=>Int.le_trans (dvd_deg b hq w) (h w e)
theorem uM{r:Rat}(b:r≠0){p:MP}(h:p≠0)(w:Nat):(c r*p).deg w=p.deg w:=by rw[deg_mul (wN b) h];have d:=deg_pos (wN b) w;have e:(c r).deg w<=0:=ow r w;omega
theorem DN{r:Rat}(b:r≠0)(p:MP):c r*p∣p/\p∣c r*p:=by
 refine⟨⟨c r⁻¹,?_⟩,⟨c r,gR⟩⟩;have h:c r*c r⁻¹=1:=by rw[mg,Rat.mul_inv_cancel _ b];rfl
 grind
theorem In.fac{b k n:Nat}{a f:MP}{d:Nat->Nat}(E:n<=4)(h:In b a)(l:a≠0)(hf:f∣a)(C:a.lo n)(hd:Dg d a)(B:uH d n<=2^k):In (b+k) (Q.nrm f):=by
 obtain⟨D,H,u,I,x,p⟩:=h;obtain⟨g,o⟩:=hf;have f0:f≠0:=λe=>l (by rw[o,e];grind);obtain⟨r,s,hp⟩:=RH f0;have i:(D:Rat)≠0:=jH u
 have e:c (D:Rat)*a=(c r*f)*(c ((D:Rat)*r⁻¹)*g):=by
  have y:c r*c ((D:Rat)*r⁻¹)=c (D:Rat):=by rw[mg];congr 1;have:=Rat.mul_inv_cancel _ s;grind
  rw[o,<-y];grind
 have G:(c (D:Rat)*a).dv 1:=ry p.d;have F:=LW G hp e;have m:c (D:Rat)*a≠0:=mul_ne (wN i) l;have j:=MP.fac d n E _ _ _ e m hp.1 F (iA l (DN i a).1 C) λw J=>by rw[uM i l];exact hd w oM
 rw[sP (D:Rat) a,bO (bQ D)]at j
 have z:In (b+k) (c r*f):=by
  refine⟨1,2^(b+k),oM,Nat.one_le_two_pow,nL _,hp.1,?_⟩;have e1:((1:Nat):Rat)=1:=rfl;rw[e1,Rat.one_mul]
  have q:(uH d n:Rat)*((D:Rat)*a.am)<=((2^k:Nat):Rat)*((2^b:Nat):Rat) :=
   qC (Ak B) (Rat.le_trans p.a (Ak x)) (bQ _) (bQ _)
  rw[<-Rat.natCast_mul,<-Nat.pow_add,Nat.add_comm]at q;exact Rat.le_trans j q
 have:=z.nrm;rwa[yt s]at this
theorem rC{p:MP}(h:p≠0):p=c (hd p)*nrm p:=by
 have b:c (hd p)*c (1/hd p)=1:=by rw[mg,He h];rfl
 rw[nrm];grind
theorem In.quot{b k n:Nat}{a q z:MP}{d:Nat->Nat}(r:n<=4)(h:In b a)(i:a≠0)(e:a=q*z)(hz:Q.hd z=1)(p:a.lo n)(hd:Dg d a)(o:uH d n<=2^k):In (b+(b+k)) q:=by
 have j:q≠0:=λh=>i (by rw[e,h];grind);have s:z≠0:=λh=>i (by rw[e,h];grind);have e1:Q.hd a=Q.hd q:=by rw[e,Hd j s,hz,Rat.mul_one]
 have l:=h.fac r i ⟨z,e⟩ p hd o;have m:=(h.hd i).mul l;rwa[e1,<-rC j]at m
end Q
end
