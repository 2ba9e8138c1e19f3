/- Images of polynomials modulo 2^31 - 1: the images' greatest common divisor has at least the degree of a common divisor. No program in sight. -/
import Derived.Test.YtopclbeomcggiaaGreatY29
set_option linter.unusedVariables false
set_option linter.unusedSimpArgs false
set_option maxHeartbeats 16000000
set_option maxRecDepth 100000
section
namespace Q
open MP
def jl (v t:Nat):Nat->MP->MP
 | 0,p=>p
 | w+1,p=>if w=v then jl v t w p else at' w ((t+w:Nat):Rat) (jl v t w p)
theorem yQ(v t:Nat):∀(w:Nat)(p q:MP),jl v t w (p*q)=jl v t w p*jl v t w q
 | 0,_,_=>rfl
 | w+1,p,q=>by
  simp only[jl];split
  ·exact yQ v t w p q
  ·rw[yQ v t w p q,DI]
theorem yR(v t:Nat){D:Nat}:∀(w:Nat){p:MP},p.dv D->(jl v t w p).dv D
 | 0,_,h=>h
 | w+1,p,h=>by
  simp only[jl];split
  ·exact yR v t w h
  ·rw[<-iN];exact Sv (yR v t w h) w _
theorem vG(v t:Nat)(hv:v<4):∀(w:Nat),w<=4->∀{p:MP}{u d:Nat},u<4->p.deg u<=d->(jl v t w p).deg u<=d
 | 0,_,_,_,_,_,h=>h
 | w+1,hw,p,u,d,hu,h=>by
  simp only[jl];split
  ·exact vG v t hv w (by omega) hu h
  ·exact Ik _ _ (by omega) hu (vG v t hv w (by omega) hu h)
def Gg (v t:Nat) (e:Ex):Nat->Nat
 | 0=>1
 | w+1=>if w=v then Gg v t e w else Gg v t e w*(t+w)^(e.get w).toNat
def Uc (v:Nat) (e:Ex):Nat->Ex
 | 0=>e
 | w+1=>if w=v then Uc v e w else(Uc v e w).put w 0
theorem BP(v:Nat)(hv:v<4)(e:Ex):∀w,w<=4->∀u,u<4->(Uc v e w).get u=if u<w/\u≠v then 0 else e.get u
 | 0,_,u,_=>by simp[Uc]
 | w+1,hw,u,hu=>by
  have i:=BP v hv e w oM u hu;simp only[Uc];split
  ·rename_i h;rw[i];by_cases b:u<w/\u≠v
   ·rw[if_pos b,if_pos ⟨oM,b.2⟩]
   ·rw[if_neg b,if_neg oM]
  ·rename_i h;by_cases b:w=u
   ·subst b;rw[Ex.get_put,if_pos ⟨oM,h⟩]
   ·rw[Ex.get_put_ne _ oM hu b,i];by_cases d:u<w/\u≠v
    ·rw[if_pos d,if_pos ⟨oM,d.2⟩]
    ·rw[if_neg d,if_neg oM]
theorem YE(f:Ex->Rat)(w:Nat)(r:Rat)(p:MP):Lf f (at' w r p).l=Lf (λe=>r^(e.get w).toNat * f (e.put w 0)) p.l:=by have h:dX (evalL p.l w r):=dX.evalL p.v.nat w r;show Lf f (canon (evalL p.l w r))=_;rw[iB h f];exact zg _ _ _ _ λt _=>by show t.2*r^_*f (t.1.put w 0)=_;grind
theorem Oq(v t:Nat)(hv:v<4)(p:MP):∀(w:Nat),w<=4->∀f:Ex->Rat,Lf f (jl v t w p).l=Lf (λe=>(Gg v t e w:Rat)*f (Uc v e w)) p.l
 | 0,_,f=>iZ λs _=>by show f s.1=((1:Nat):Rat)*f s.1;have e:((1:Nat):Rat)=1:=rfl;rw[e];grind
 | w+1,hw,f=>by
  have b:=Oq v t hv p w oM;by_cases h:w=v
  ·simp only[jl,Gg,Uc,if_pos h];exact b f
  ·simp only[jl,Gg,Uc,if_neg h];rw[YE,b];refine iZ λs _=>?_;have e:(Uc v s.1 w).get w=s.1.get w:=by rw[BP v hv s.1 w oM w oM,if_neg oM]
   rw[e,Rat.natCast_mul,Rat.natCast_pow];grind
theorem U7(v t:Nat)(hv:v<4)(p:MP)(i:Nat):cf (jl v t 4 p).l (e0.put v i)=Lf (λe=>if e.get v=i then(Gg v t e 4:Rat)else 0) p.l:=by
 show Lf _ _=_;rw[Oq v t hv p 4 (nL _)];refine iZ λs _=>?_
 have e:(Uc v s.1 4=e0.put v i)↔s.1.get v=(i:Int):=by
  constructor
  ·intro h;have:=congrArg (Ex.get · v) h;simp only[BP v hv s.1 4 (nL _) v hv,Ex.get_put]at this;rw[if_neg oM]at this;exact this
  ·intro h;refine Ex.ext4 λu hu=>?_;rw[BP v hv s.1 4 (nL _) u hu];by_cases hc:v=u
   ·subst hc;rw[if_neg oM,Ex.get_put,h]
   ·rw[if_pos ⟨hu,Ne.symm hc⟩,Ex.get_put_ne _ hv hu hc,Cj]
 by_cases hc:s.1.get v=(i:Int)
 ·rw[if_pos hc,if_pos (e.2 hc)];grind
 ·rw[if_neg hc,if_neg λh=>hc (e.1 h)];grind
def Cg (a b:Int):Prop:=∃k:Int,a=b+2147483647*k
theorem Cg.refl(a:Int):Cg a a:=⟨0,oM⟩
theorem Cg.symm{a b:Int}(h:Cg a b):Cg b a:=by obtain⟨k,h⟩:=h;exact⟨-k,oM⟩
theorem Cg.trans{a b c:Int}(h:Cg a b)(d:Cg b c):Cg a c:=by obtain⟨k,h⟩:=h;obtain⟨l,d⟩:=d;exact⟨k+l,oM⟩
theorem Cg.add{a b c d:Int}(h:Cg a b)(e:Cg c d):Cg (a+c) (b+d):=by obtain⟨k,h⟩:=h;obtain⟨l,e⟩:=e;exact⟨k+l,oM⟩
theorem Cg.mul{a b c d:Int}(h:Cg a b)(e:Cg c d):Cg (a*c) (b*d):=by obtain⟨k,rfl⟩:=h;obtain⟨l,rfl⟩:=e;exact⟨b*l+k*d+2147483647*k*l,gR⟩
theorem Cg.mod(a:Nat):Cg ((a%pr:Nat):Int) a:=⟨-((a/pr:Nat):Int),by have:=Nat.div_add_mod a pr;rw[jI]at *;omega⟩
theorem Cg.zero{a:Int}(h:Cg a 0):(2147483647:Int)∣a:=by obtain⟨k,h⟩:=h;exact⟨k,oM⟩
theorem Cg.cancel{a b d:Int}(hd:¬(2147483647:Int)∣d)(h:Cg (a*d) (b*d)):Cg a b:=by
 obtain⟨k,h⟩:=h;have i:((pr:Nat):Int)∣(a - b)*d:=⟨k,by rw[jI];grind⟩;rcases BN DN i with e|e
 ·obtain⟨l,e⟩:=e;exact⟨l,by rw[jI]at e;omega⟩
 ·rw[jI]at e;exact absurd e hd
theorem yS(z:Int):Cg (eZ z) z:=by
 unfold eZ;split
 ·exact⟨(z.natAbs/2147483647:Nat)+1,by have:=Nat.div_add_mod z.natAbs 2147483647;omega⟩
 ·rename_i h;by_cases hz:z<0
  ·exact⟨(z.natAbs/2147483647:Nat),by have:=Nat.div_add_mod z.natAbs 2147483647;omega⟩
  ·exact⟨-((z.natAbs/2147483647:Nat):Int),by have:=Nat.div_add_mod z.natAbs 2147483647;omega⟩
theorem U8(a:Nat){n:Nat}(h:n<18446744073709551616):Cg (jN a n) ((a^n:Nat):Int):=by rw[Od a h];exact Cg.mod _
theorem Ot{m:aj}{v t:Nat}(i:m.1.nat=true)(he:∀w,m.1.get w<18446744073709551616):∀w:Nat,Cg (tX m v t w) ((eZ m.2.num*jN (eZ m.2.den) (pr-2):Nat)*(Gg v t m.1 w:Nat):Int)
 | 0=>by rw[tX,Gg];have:=Cg.mod (eZ m.2.num*jN (eZ m.2.den) (pr-2));have e:∀x:Int,x*((1:Nat):Int)=x:=λx=>oM;rw[e];exact this
 | w+1=>by
  rw[tX,Gg];have b:=Ot (v:=v) (t:=t) i he w;split
  ·exact b
  ·have h:=U8 (t+w) (n:=(m.1.get w).toNat) (by have:=he w;omega);have d:=(Cg.mod (tX m v t w*jN (t+w) (m.1.get w).toNat)).trans (by rw[Int.natCast_mul];exact b.mul h);rw[Int.natCast_mul (Gg v t m.1 w),<-Int.mul_assoc];exact d
theorem U9{m:aj}{v t:Nat}(p:m.1.nat=true)(he:∀w,m.1.get w<18446744073709551616)(hd:eZ m.2.den≠0):Cg (MJ m v t*m.2.den) (m.2.num*(Gg v t m.1 4:Nat)):=by
 have i:=Ot (v:=v) (t:=t) p he 4;have j:=yS m.2.num;have k:=yS (m.2.den:Int);have b:eZ (m.2.den:Int)<pr:=qC _;have l:=ME (x:=eZ (m.2.den:Int)) oM b;have d:=Cg.mod (jN (eZ m.2.den) (pr-2)*eZ m.2.den);rw[l]at d
 have n:Cg ((jN (eZ m.2.den) (pr-2):Nat)*(m.2.den:Int)) 1:=by have:=(Cg.refl ((jN (eZ m.2.den) (pr-2):Nat):Int)).mul k;refine(this.symm.trans ?_);rw[<-Int.natCast_mul];exact d.symm
 have o:=i.mul (Cg.refl (m.2.den:Int));refine o.trans ?_;have h:=(j.mul n).mul (Cg.refl (Gg v t m.1 4:Int));rw[Int.mul_one]at h;rw[Int.natCast_mul];have e:(eZ m.2.num:Int)*(jN (eZ m.2.den) (pr-2):Nat)*(Gg v t m.1 4:Nat)*m.2.den=(eZ m.2.num:Int)*((jN (eZ m.2.den) (pr-2):Nat)*(m.2.den:Int))*(Gg v t m.1 4:Nat):=gR;rw[e];exact h
def cS (N v t i:Nat):List aj->Int
 | []=>0
 | m::l=>(if m.1.get v=(i:Int)then(m.2*(N:Rat)).num*(Gg v t m.1 4:Nat)else 0)+cS N v t i l
theorem VU{N v t i:Nat}:∀{l:List aj},(∀m∈l,Dv N m.2)->(N:Rat)*Lf (λe=>if e.get v=i then(Gg v t e 4:Rat)else 0) l=(cS N v t i l:Rat)
 | [],_=>by show(N:Rat)*0=((0:Int):Rat);rw[Rat.mul_zero];rfl
 | m::l,h=>by
  have j:=VU (i:=i) (v:=v) (t:=t) (l:=l) λs d=>h s (by simp[d]);obtain⟨k,b⟩:=h m sM;rw[oQ,cS,Rat.intCast_add,<-j,b];split
  ·rw[Rat.intCast_mul,iN];have:((k:Rat)).num=k:=rfl;rw[this,<-b];grind
  ·rw[Rat.intCast_zero];grind
theorem Ku{N v t:Nat}(hv:v<4):∀{l:List aj}{out x:List Nat},jJ v t l out=some x->dX l->(∀m∈l,∀w,m.1.get w<18446744073709551616)->(∀m∈l,Dv N m.2)->(∀m∈l,(m.1.get v).toNat<out.length) ->
  x.length=out.length/\∀i,i<out.length->Cg ((N:Int)*x.getD i 0) ((N:Int)*out.getD i 0+cS N v t i l)
 | [],out,x,h,_,_,_,_=>by simp only[jJ,sJ]at h;subst h;exact⟨rfl,λi _=>by rw[cS,Int.add_zero];exact Cg.refl _⟩
 | m::l,out,x,h,hn,he,hd,hk=>by
  rw[jJ]at h;split at h
  ·cases h
  ·rename_i d;have hm:=hn m sM;obtain⟨o,k⟩:=Ku hv h (λs j=>hn s (by simp[j])) (λs j=>he s (by simp[j])) (λs j=>hd s (by simp[j])) (λs j=>by rw[List.length_set];exact hk s (by simp[j]));rw[List.length_set]at o k;refine⟨o,λi G=>(k i G).trans ?_⟩;rw[cS,<-Int.add_assoc];refine Cg.add ?_ (Cg.refl _);have H:=hk m sM;have F:=Ex.nat_get hm v;by_cases hc:m.1.get v=(i:Int)
   ·have e:(m.1.get v).toNat=i:=oM;rw[if_pos hc,e,jD,List.getElem?_set_self oM,Option.getD_some];have p:=Cg.mod (out.getD i 0+MJ m v t);rw[Int.natCast_add]at p;have y:=(Cg.refl (N:Int)).mul p;refine y.trans ?_;rw[Int.mul_add];refine(Cg.refl _).add ?_;have B:=U9 (v:=v) (t:=t) hm (he m sM) d;obtain⟨z,hz⟩:=hd m sM;rw[hz];show Cg _ (z*_)
    have n:¬(2147483647:Int)∣m.2.den:=λr=>d (by
     have:=yS (m.2.den:Int);have I:=qC (m.2.den:Int);obtain⟨a,ha⟩:=r;obtain⟨b,hb⟩:=this
     omega)
    refine Cg.cancel n ?_
    have C:z*m.2.den=N*m.2.num:=by
     have D:m.2*(m.2.den:Rat)=m.2.num:=by have o:(m.2.den:Rat)≠0:=jQ m.2.den_pos;have k:=Rat.num_divInt_den m.2;rw[Rat.divInt_eq_div,iN]at k;have p:(m.2.num:Rat)/(m.2.den:Rat)*(m.2.den:Rat)=m.2.num:=Rat.div_mul_cancel o;rwa[k]at p
     have E:((z*m.2.den:Int):Rat)=((N*m.2.num:Int):Rat):=by rw[Rat.intCast_mul,Rat.intCast_mul,<-hz,<-D,iN,iN];grind
     exact Rat.intCast_inj.1 E
    have q:=(Cg.refl (N:Int)).mul B;have e1:(N:Int)*MJ m v t*m.2.den=N*(MJ m v t*m.2.den):=gR
    have u:z*(Gg v t m.1 4:Nat)*m.2.den=N*(m.2.num*(Gg v t m.1 4:Nat)):=by have:z*(Gg v t m.1 4:Nat)*m.2.den=(z*m.2.den)*(Gg v t m.1 4:Nat):=gR;rw[this,C];grind
    rw[e1,u];exact q
   ·have e:(m.1.get v).toNat≠i:=oM;rw[if_neg hc,Int.add_zero,jD,List.getElem?_set_ne e,<-jD];exact Cg.refl _
theorem Ef(n i:Nat):(List.replicate n 0).getD i 0=0:=by
 rw[jD];rcases Nat.lt_or_ge i n with h|h
 ·rw[List.getElem?_replicate,if_pos h];rfl
 ·rw[gN (by simpa using h)];rfl
def qY (v:Nat) (l:List Nat):MP:=cO (λi=>c ((l.getD i 0:Nat):Rat)*xk v i) l.length
theorem oD(v:Nat)(l:List Nat)(i:Nat):(qY v l).co v i=c ((l.getD i 0:Nat):Rat):=by
 rw[qY,tu];rcases Nat.lt_or_ge i l.length with h|h
 ·rw[qw _ h λj _ b=>by rw[co_mul_fr (ow _ _),fP,if_neg (Ne.symm b)];grind];rw[co_mul_fr (ow _ _),fP,if_pos rfl];grind
 ·rw[dI (g:=λ_=>0) λj b=>by rw[co_mul_fr (ow _ _),fP,if_neg oM];grind,nJ];rw[jD,gN h];rfl
theorem Qf(v:Nat)(l:List Nat):(qY v l).deg v<=(l.length:Int)-1:=by refine deg_le_of oM λn b=>?_;rw[oD,jD,gN oM];rfl
theorem MV(v:Nat){p q:MP}(h:∀i,p.co v i=q.co v i):p=q:=by obtain⟨N,b⟩:∃N,N=(max (p.deg v) (q.deg v)).toNat+1:=⟨_,rfl⟩;rw[split v p (N:=N) oM,split v q (N:=N) oM];exact dI λi _=>by rw[h i]
def Va (v:Nat) (F:MP) (l:List Nat):Prop:=∃E R:MP,E.dv 1/\R.dv 1/\qY v l=F*E+c (pr:Rat)*R
theorem Tm(n:Nat):(c (n:Rat)).dv 1:=by rw[<-iN];exact xw 1 _
theorem Ou(v k:Nat):(xk v k).dv 1:=λt b=>by rw[List.mem_singleton.1 b];exact Dv.int 1 1
theorem Tn(v:Nat)(l:List Nat):(qY v l).dv 1:=yI λi _=>jr (Tm _) (Ou v i)
theorem Tq(l:List Nat)(k y i:Nat)(b:k<l.length):(l.set k y).getD i 0=if i=k then y else l.getD i 0:=by
 rw[jD];by_cases h:i=k
 ·subst h;rw[if_pos rfl,List.getElem?_set_self b];rfl
 ·rw[if_neg h,List.getElem?_set_ne (Ne.symm h),jD]
theorem VV(r s:Rat):c (r+s)=c r+c s:=ext' λx=>by rw[MP.ev_add,ev_c,ev_c,ev_c]
theorem Ab:∀(l:List Nat)(i:Nat),(strip l).getD i 0=l.getD i 0
 | [],_=>rfl
 | x::l,i=>by
  have b:=Ab l;rw[strip];split
  ·rename_i h;rw[h]at b;have hz:∀j,l.getD j 0=0:=λj=>by rw[<-b j];rfl
   split
   ·rename_i d
    cases i with
    | zero=>rw[d];rfl
    | succ i=>have:=hz i;simpa using this.symm
   ·cases i with
    | zero=>rfl
    | succ i=>have:=hz i;simpa using this.symm
  ·rename_i y r h;rw[<-h]
   cases i with
   | zero=>rfl
   | succ i=>have:=b i;simpa using this
theorem Kv(v:Nat)(l:List Nat):qY v (strip l)=qY v l:=MV v λi=>by rw[oD,oD,Ab]
def Tp (l:List Nat):Prop:=l≠[]->l.getD (l.length-1) 0≠0
theorem yT:∀l:List Nat,Tp (strip l)
 | []=>λh=>absurd rfl h
 | x::l=>by
  have b:=yT l;rw[strip];split
  ·split
   ·exact λh=>absurd rfl h
   ·rename_i d;exact λ_=>d
  ·rename_i y r h;rw[h]at b;intro _;have:=b sM;simpa using this
theorem Gh:∀l:List Nat,(strip l).length<=l.length
 | []=>nL _
 | x::l=>by
  have b:=Gh l;rw[strip];split
  ·split<;>simp
  ·rename_i y r h;rw[h]at b;simpa using b
theorem Tt{l:List Nat}(h0:l≠[])(h:l.getD (l.length-1) 0=0):(strip l).length<l.length:=by
 have j:=Gh l;rcases Nat.eq_or_lt_of_le j with e|hlt
 ·exfalso;have b:strip l≠[]:=λi=>by rw[i]at e;have:=List.length_eq_zero_iff.1 e.symm;exact h0 this
  have d:=yT l b;rw[Ab,e]at d;exact d h
 ·exact hlt
theorem Ac{l:List Nat}(h:∀x∈l,x<pr):∀x∈strip l,x<pr:=by
 induction l with
 | nil=>exact h
 | cons x l d =>
  have d:=d λy b=>h y (by simp[b]);rw[strip];split
  ·split
   ·intro _ b;cases b
   ·intro y b;rw[List.mem_singleton.1 b];exact h x sM
  ·rename_i z r e;rw[e]at d;intro y b;rcases List.mem_cons.1 b with rfl|b
   ·exact h _ sM
   ·exact d y b
theorem rZ(b rest:List Nat)(f at_:Nat):∀i,(fJ b rest f at_ i).length=rest.length
 | 0=>rfl
 | i+1=>by rw[fJ,List.length_set,rZ b rest f at_ i]
theorem wm{b rest:List Nat}{f at_:Nat}(h:∀x∈rest,x<pr):∀i,∀x∈fJ b rest f at_ i,x<pr
 | 0=>h
 | i+1=>λx d=>by
  rw[fJ]at d;rcases List.mem_or_eq_of_mem_set d with d|rfl
  ·exact wm h i x d
  ·exact Nat.mod_lt _ (by decide)
theorem Ad{b rest:List Nat}{f at_:Nat}:∀(i:Nat),at_+i<=rest.length->∀j,(fJ b rest f at_ i).getD j 0=if at_<=j/\j<at_+i then(rest.getD j 0+(pr-b.getD (j-at_) 0)*f)%pr else rest.getD j 0
 | 0,_,j=>by rw[fJ,if_neg (by omega)]
 | i+1,h,j=>by
  have k:=Ad (b:=b) (rest:=rest) (f:=f) (at_:=at_) i oM;rw[fJ,Tq _ _ _ _ (by rw[rZ];omega),k j,k (at_+i)];by_cases e:j=at_+i
  ·subst e;rw[if_pos rfl,if_neg oM,if_pos oM,(oM:at_+i-at_=i)]
  ·rw[if_neg e];by_cases d:at_<=j/\j<at_+i
   ·rw[if_pos d,if_pos oM]
   ·rw[if_neg d,if_neg oM]
theorem Va.red{v:Nat}{F:MP}{b rest:List Nat}(L:Va v F rest)(hb:Va v F b)(p:∀x∈b,x<pr)(f:Nat){at_:Nat}(h:at_+b.length=rest.length):Va v F (fJ b rest f at_ b.length):=by
 obtain⟨E,R,N,S,e⟩:=L;obtain⟨D,G,s,u,H⟩:=hb
 have key:∃K:MP,K.dv 1/\qY v (fJ b rest f at_ b.length)=qY v rest-c (f:Rat)*(xk v at_*qY v b)+c (pr:Rat)*K:=by
  have hq:∀j,∃k:Int,((fJ b rest f at_ b.length).getD j 0:Int)=(rest.getD j 0:Int)-(if at_<=j then(f:Int)*(b.getD (j-at_) 0:Nat)else 0)+2147483647*k:=λj=>by
   rw[Ad b.length oM];by_cases d:at_<=j/\j<at_+b.length
   ·rw[if_pos d,if_pos d.1]
    have r:b.getD (j-at_) 0<pr:=by rw[jD,gE (by omega:j-at_<b.length)];exact p _ (List.getElem_mem _)
    obtain⟨y,M⟩:∃y,y=b.getD (j - at_) 0:=⟨_,rfl⟩;rw[<-M]at r ⊢;obtain⟨k,n⟩:=Cg.mod (rest.getD j 0+(pr - y)*f);refine⟨k+f,?_⟩;rw[n,Int.natCast_add,Int.natCast_mul,Int.ofNat_sub oM,jI];grind
   ·rw[if_neg d];refine⟨0,?_⟩;by_cases o:at_<=j
    ·rw[if_pos o,jD (l:=b),gN oM];simp
    ·rw[if_neg o];omega
  have ⟨k,n⟩:∃k:Nat->Int,∀j,((fJ b rest f at_ b.length).getD j 0:Int)=(rest.getD j 0:Int)-(if at_<=j then(f:Int)*(b.getD (j-at_) 0:Nat)else 0)+2147483647*k j :=
   ⟨λj=>(((fJ b rest f at_ b.length).getD j 0:Int)-((rest.getD j 0:Int)-(if at_<=j then(f:Int)*(b.getD (j-at_) 0:Nat)else 0)))/2147483647,λj=>by
    obtain⟨k,n⟩:=hq j
    simp only[n];omega⟩
  refine⟨cO (λi=>c (k i:Rat)*xk v i) rest.length,yI λi _=>jr (xw 1 _) (Ou v i),MV v λj=>?_⟩
  have J:(cO (λi=>c (k i:Rat)*xk v i) rest.length).co v j=if j<rest.length then c (k j:Rat)else 0:=by
   rw[tu];split
   ·rename_i m;rw[qw _ m λi _ C=>by rw[co_mul_fr (ow _ _),fP,if_neg (Ne.symm C)];grind];rw[co_mul_fr (ow _ _),fP,if_pos rfl];grind
   ·rename_i m;rw[dI (g:=λ_=>0) λi C=>by rw[co_mul_fr (ow _ _),fP,if_neg oM];grind,nJ]
  rw[co_add,co_sub,co_mul_fr (ow _ _),co_xk,co_mul_fr (ow _ _),J,oD,oD,oD];have d:=n j
  have o:(((fJ b rest f at_ b.length).getD j 0:Nat):Rat)=(rest.getD j 0:Nat)-(if at_<=j then(f:Rat)*(b.getD (j-at_) 0:Nat)else 0)+(pr:Rat)*(k j:Rat):=by
   have B:=congrArg (λz:Int=>(z:Rat)) d;simp only[Rat.intCast_add,Rat.intCast_sub,Rat.intCast_mul,iN]at B;rw[B,jI];by_cases hc:at_<=j
   ·rw[if_pos hc,if_pos hc,Rat.intCast_mul,iN,iN];rfl
   ·rw[if_neg hc,if_neg hc];rfl
  rw[o]
  have q:¬j<rest.length->(k j:Rat)=0:=λm=>by
   have W:(fJ b rest f at_ b.length).getD j 0=0:=by rw[jD,gN (by rw[rZ];omega)];rfl
   have X:rest.getD j 0=0:=by rw[jD,gN oM];rfl
   have Y:b.getD (j-at_) 0=0:=by rw[jD,gN oM];rfl
   rw[W,X,Y]at d;have:k j=0:=by split at d<;>omega
   rw[this];rfl
  refine ext' λx=>?_;by_cases m:j<rest.length
  ·rw[if_pos m];by_cases hc:at_<=j
   ·rw[if_pos hc,if_pos hc];simp only[MP.ev_add,MP.ev_sub,MP.ev_mul,ev_c]
   ·rw[if_neg hc,if_neg hc];simp only[MP.ev_add,MP.ev_sub,MP.ev_mul,ev_c,ev_zero];grind
  ·rw[if_neg m,q m];by_cases hc:at_<=j
   ·rw[if_pos hc,if_pos hc];simp only[MP.ev_add,MP.ev_sub,MP.ev_mul,ev_c,ev_zero]
   ·rw[if_neg hc,if_neg hc];simp only[MP.ev_add,MP.ev_sub,MP.ev_mul,ev_c,ev_zero];grind
 obtain⟨K,O,I⟩:=key;have i1:(c (f:Rat)*xk v at_).dv 1:=jr (Tm f) (Ou v at_);refine⟨E - c (f:Rat)*xk v at_*D,R - c (f:Rat)*xk v at_*G+K,Dz N (jr i1 s),Dy (Dz S (jr i1 u)) O,?_⟩;rw[I,e,H];grind
theorem Va.strip{v:Nat}{F:MP}{l:List Nat}(h:Va v F l):Va v F (strip l):=by obtain⟨E,R,b,d,e⟩:=h;exact⟨E,R,b,d,by rw[Kv,e]⟩
structure Gd (v:Nat) (F:MP) (l:List Nat):Prop where
 d:Va v F l
 t:Tp l
 m:∀x∈l,x<pr
theorem Gd.rest{v:Nat}{F:MP}{b:List Nat}(hb:Gd v F b)(inv:Nat):∀{n:Nat}{r x:List Nat},lS b inv n r=some x->Gd v F r->Gd v F x
 | 0,_,_,h,_=>by cases h
 | n+1,r,x,h,hr=>by
  rw[lS]at h;split at h
  ·rename_i lv;exact Gd.rest hb inv h ⟨(hr.d.red hb.d hb.m _ (by omega)).strip,yT _,Ac (wm hr.m _)⟩
  ·simp only[sJ]at h;subst h;exact hr
theorem Gd.share{v:Nat}{F:MP}:∀{n:Nat}{a b:List Nat}{k:Nat},iO n a b=some k->Gd v F a->Gd v F b->a≠[]->∃l,Gd v F l/\l≠[]/\l.length=k
 | 0,_,_,_,h,_,_,_=>by cases h
 | n+1,a,b,k,h,ha,hb,hne=>by
  rw[iO]at h;split at h
  ·simp only[sJ]at h;exact⟨a,ha,hne,h⟩
  ·rename_i d;split at h
   ·cases h
   ·rename_i r e;exact Gd.share h hb (hb.rest _ e ha) d
theorem Gd.len{v:Nat}{F:MP}{l:List Nat}(h:Gd v F l)(p:l≠[])(Z:F.dv 1)(S:¬DF pr (F.lc v)):F.deg v<=(l.length:Int)-1:=by
 obtain⟨E,R,L,iR,e⟩:=h.d;have J:0<pr:=dM;rcases Int.lt_or_le ((l.length:Int) - 1) (F.deg v)with hlt|lv
 ·exfalso;have O:=Ii (wJ pr) E;obtain⟨X,iX,eX⟩:=Ij J L;obtain⟨i,k⟩:∃g,g=Ua (λt=>!wJ pr t) E:=⟨_,rfl⟩;have M:i.dv 1:=by rw[k];exact Mw L
  rw[<-k,eX]at O;have N:qY v l=F*i+c (pr:Rat)*(F*X+R):=by rw[e,O];grind
  have G:(F*X+R).dv 1:=Dy (jr Z iX) iR;have o:F≠0:=λh0=>S (by rw[h0];exact vg pr);by_cases hz:i=0
  ·have j:=congrArg (λg=>cf (MP.co v (l.length-1) g).l e0) N;simp only[oD,hz]at j;have e3:F*0+c (pr:Rat)*(F*X+R)=c (pr:Rat)*(F*X+R):=gR;rw[e3,co_mul_fr (ow _ _),qW]at j
   have i3:((F*X+R).co v (l.length-1)).dv 1:=λt b=>by have b:t∈((F*X+R).l.filter λu=>u.1.get v=((l.length - 1:Nat):Int)).map λu=>(u.1.put v 0,u.2):=b;obtain⟨u,hu,rfl⟩:=List.mem_map.1 b;exact G u (List.mem_filter.1 hu).1
   obtain⟨z,hz⟩:=jB (FX i3 e0);rw[hz]at j;have b:=h.t p
   have hm:l.getD (l.length-1) 0<pr:=by rw[jD,gE (by have:=List.length_pos_iff.2 p;omega:l.length-1<l.length)];exact h.m _ (List.getElem_mem _)
   have e4:cf (c ((l.getD (l.length-1) 0:Nat):Rat)).l e0=((l.getD (l.length-1) 0:Nat):Rat):=by show cf (bW _) e0=_;rw[bW,if_neg (jQ oM),bK,jK,if_pos rfl];exact Rat.add_zero _
   rw[e4,<-iN,<-iN,<-Rat.intCast_mul]at j;have h5:=Rat.intCast_inj.1 j;have h6:(0:Int)<((l.getD (l.length-1) 0:Nat):Int):=oM;rw[jI]at *;omega
  ·have j:=congrArg (λg=>MP.co v ((F.deg v).toNat+(i.deg v).toNat) g) N;simp only[co_add]at j;rw[wS v o hz,co_mul_fr (ow _ _)]at j;have hd:=Qf v l;have:=deg_pos o v;rw[co_above oM]at j
   have i3:((F*X+R).co v ((F.deg v).toNat+(i.deg v).toNat)).dv 1:=λt b=>by have b:t∈((F*X+R).l.filter λu=>u.1.get v=(((F.deg v).toNat+(i.deg v).toNat:Nat):Int)).map λu=>(u.1.put v 0,u.2):=b;obtain⟨u,hu,rfl⟩:=List.mem_map.1 b;exact G u (List.mem_filter.1 hu).1
   have I:(F.lc v).dv 1:=λt b=>by have b:t∈(F.l.filter λu=>u.1.get v=((F.deg v).toNat:Int)).map λu=>(u.1.put v 0,u.2):=b;obtain⟨u,hu,rfl⟩:=List.mem_map.1 b;exact Z u (List.mem_filter.1 hu).1
   have H:(i.lc v).dv 1:=λt b=>by have b:t∈(i.l.filter λu=>u.1.get v=((i.deg v).toNat:Int)).map λu=>(u.1.put v 0,u.2):=b;obtain⟨u,hu,rfl⟩:=List.mem_map.1 b;exact M u (List.mem_filter.1 hu).1
   have K:DF pr (F.lc v*i.lc v):=⟨-((F*X+R).co v ((F.deg v).toNat+(i.deg v).toNat)),Sl i3,gR⟩;rcases FZ DN I H K with h3|h3
   ·exact S h3
   ·obtain⟨Y,iY,eY⟩:=h3;obtain⟨t,r,b⟩:=je (lc_ne hz v);have q:t∈(i.lc v).l:=by rw[b];simp
    have n:=Ms q;rw[eY,qW]at n;have s:t∈(i.l.filter λu=>u.1.get v=((i.deg v).toNat:Int)).map λu=>(u.1.put v 0,u.2):=q;obtain⟨u,hu,rfl⟩:=List.mem_map.1 s;have B:=(List.mem_filter.1 hu).1;rw[k]at B;have C:u∈E.l.filter (λt=>!wJ pr t):=B;have D:=(List.mem_filter.1 C).2;obtain⟨y,hy⟩:=jB (FX iY (u.1.put v 0));obtain⟨x,W⟩:=jB (L u (List.mem_filter.1 C).1);simp only[wJ,Bool.not_eq_true',decide_eq_false_iff_not,W]at D;have n:(pr:Rat)*cf Y.l (u.1.put v 0)=u.2:=n;rw[hy,W,<-iN,<-Rat.intCast_mul]at n;exact D (Int.emod_eq_zero_of_dvd ⟨y,(Rat.intCast_inj.1 n).symm⟩)
 ·exact lv
theorem Tu(v t:Nat)(r:Rat):∀w,jl v t w (c r)=c r
 | 0=>rfl
 | w+1=>by simp only[jl];split<;>simp only[Tu v t r w,Zt]
theorem IA(v t:Nat)(p:MP):∀w,w<=4->∀u,u<w->u≠v->(jl v t w p).fr u
 | 0,_,u,h,_=>by omega
 | w+1,hw,u,h,hne=>by
  simp only[jl];split
  ·rename_i e;exact IA v t p w (by omega) u (by omega) hne
  ·rcases Nat.eq_or_lt_of_le (show u<=w by omega)with e|h1
   ·subst e;exact N9 _ _ _
   ·have b:(jl v t w p).deg u<=(0:Nat):=IA v t p w oM u h1 hne;exact Ik _ _ oM oM b
theorem YF(v i:Nat)(hv:v<4)(p:MP):cf (p.co v i).l e0=cf p.l (e0.put v i):=by
 show Lf _ (aR p.l v i)=Lf _ _;rw[fO];refine iZ λs _=>?_;by_cases h:s.1=e0.put v i
 ·rw[if_pos h,h,Ex.get_put,if_pos rfl,Ex.put_put,if_pos];have:=Ex.put_get e0 v;rw[Cj]at this;exact this
 ·rw[if_neg h];by_cases b:s.1.get v=(i:Int)
  ·rw[if_pos b,if_neg λd=>h (by rw[<-d,Ex.put_put,<-b,Ex.put_get])]
  ·rw[if_neg b]
theorem ZF{p:MP}(h:p.lo 0):p=c (cf p.l e0):=by
 obtain⟨r,rfl⟩:=kL h
 congr 1
 show r=cf (bW r) e0;unfold bW;split
 ·rename_i h;rw[h];rfl
 ·rw[bK,jK,if_pos rfl];exact(Rat.add_zero _).symm
theorem Vb(v t i:Nat)(hv:v<4)(p:MP):(jl v t 4 p).co v i=c (cf (jl v t 4 p).l (e0.put v i)):=by
 rw[<-YF v i hv];refine ZF λw _ b=>?_;by_cases h:w=v
 ·subst h;exact co_fr _ _ _
 ·exact VH b hv (IA v t p 4 (nL _) w b h)
def Kw:List aj->Nat
 | []=>1
 | t::l=>t.2.den*Kw l
theorem Gi:∀l,0<Kw l
 | []=>Nat.one_pos
 | t::l=>Nat.mul_pos t.2.den_pos (Gi l)
theorem Ky:∀{l:List aj},∀t∈l,Dv (Kw l) t.2
 | s::l,t,h=>by
  rcases List.mem_cons.1 h with rfl|h
  ·exact(Ip _).dvd (Nat.dvd_mul_right _ _)
  ·exact(Ky t h).dvd (Nat.dvd_mul_left _ _)
theorem Eg{v t:Nat}:∀{l:List aj}{out x:List Nat},jJ v t l out=some x->¬pr∣Kw l
 | [],_,_,_=>by decide
 | m::l,out,x,h=>by
  rw[jJ]at h;split at h
  ·cases h
  ·rename_i d;have i:=Eg h;intro hd;rcases DL DN hd with h1|h1
   ·apply d;have e:=yS (m.2.den:Int);have j:=qC (m.2.den:Int);obtain⟨a,ha⟩:=h1;obtain⟨b,hb⟩:=e;rw[jI]at ha;omega
   ·exact i h1
theorem ww{v t:Nat}:∀{l:List aj}{out x:List Nat},jJ v t l out=some x->(∀y∈out,y<pr)->∀y∈x,y<pr
 | [],out,x,h,ho=>by simp only[jJ,sJ]at h;subst h;exact ho
 | m::l,out,x,h,ho=>by
  rw[jJ]at h;split at h
  ·cases h
  ·refine ww h λy b=>?_;rcases List.mem_or_eq_of_mem_set b with b|rfl
   ·exact ho y b
   ·exact Nat.mod_lt _ (by decide)
theorem Z0{N:Nat}(h:¬pr∣N):∃M K:Int,(N:Int)*M=1+(pr:Int)*K:=by have h0:0<N%pr:=Nat.pos_of_ne_zero λe=>h (Nat.dvd_of_mod_eq_zero e);have d:N%pr<pr:=Nat.mod_lt _ dM;have i:=ME h0 d;have b:=Cg.mod (jN (N%pr) (pr - 2)*(N%pr));rw[i]at b;have j:=Cg.mod N;have l:=(Cg.refl ((jN (N%pr) (pr - 2):Nat):Int)).mul j;rw[Int.natCast_mul]at b;obtain⟨k,m⟩:=(b.trans l).symm;exact⟨jN (N%pr) (pr - 2),k,by rw[jI];rw[Int.mul_comm];exact m⟩
structure Im (v:Nat) (d:MP) (F:MP) (x:List Nat):Prop where
 g:Gd v F x
 ne:x≠[]
 i:F.dv 1
 l:¬DF pr (F.lc v)
 dg:F.deg v=d.deg v
theorem VW{D:Nat}{p:MP}(h:p.dv D)(v n:Nat):(p.co v n).dv D:=λt b=>by have b:t∈(p.l.filter λu=>u.1.get v=(n:Int)).map λu=>(u.1.put v 0,u.2):=b;obtain⟨u,hu,rfl⟩:=List.mem_map.1 b;exact h u (List.mem_filter.1 hu).1
theorem Tv{v t:Nat}(hv:v<4){a d:MP}(ha:a≠0)(he:∀m∈a.l,∀w,m.1.get w<18446744073709551616){r:Rat}(hr:r≠0)(hp:pz (c r*d))(hd:d∣a){x:List Nat}(hx:ji a.l v t=some x)(hf:iQ (some x)=true) :
  Im v d (jl v t 4 (c r*d)) x:=by
 obtain⟨e,rfl⟩:=hd;have I:=Eg hx;obtain⟨N,hN⟩:∃N,N=Kw (d*e).l:=⟨_,rfl⟩;rw[<-hN]at I;have a3:0<N:=by rw[hN];exact Gi _
 have H:(d*e).dv N:=by rw[hN];exact λt ht=>Ky t ht
 obtain⟨D,hD⟩:∃D,D=c r*d:=⟨_,rfl⟩;rw[<-hD]at hp ⊢;obtain⟨E,hE⟩:∃E,E=c ((N:Rat)*r⁻¹)*e:=⟨_,rfl⟩
 have hA:c (N:Rat)*(d*e)=D*E:=by
  rw[hD,hE]
  have O:c r*c ((N:Rat)*r⁻¹)=c (N:Rat):=by rw[mR];congr 1;have:=Rat.mul_inv_cancel _ hr;grind
  rw[<-O];grind
 have iE:E.dv 1:=Sr (rU H) hp hA
 have o:c (N:Rat)*jl v t 4 (d*e)=jl v t 4 D*jl v t 4 E:=by rw[<-yQ,<-hA,yQ v t 4 (c (N:Rat)),Tu]
 have d0:d≠0:=λh=>ha (by rw[h];grind);have G:e≠0:=λh=>ha (by rw[h];grind);have a9:=deg_pos ha v;have n:(List.replicate (aD (d*e).l v+1).toNat 0).length=((d*e).deg v+1).toNat:=by rw[List.length_replicate];rfl
 obtain⟨L,hL⟩:∃L,L=((d*e).deg v+1).toNat:=⟨_,rfl⟩;rw[<-hL]at n
 obtain⟨O,h2⟩:=Ku (N:=N) hv hx (d*e).v.nat he H λm hm=>by rw[n];have:=dR hm v;have h':(d*e).deg v=aD (d*e).l v:=rfl;have:=Ex.nat_get ((d*e).v.nat m hm) v;omega
 rw[n]at O h2
 have hz:∀i,c (N:Rat)*(jl v t 4 (d*e)).co v i=c ((cS N v t i (d*e).l:Int):Rat):=λi=>by rw[Vb v t i hv,mR,U7 v t hv,VU H]
 have a7:∀i,L<=i->x.getD i 0=0:=λi q=>by rw[jD,gN oM];rfl
 have S:∀i,L<=i->(jl v t 4 (d*e)).co v i=0:=λi q=>co_above (by
  have:=vG v t hv 4 (nL _) (p:=d*e) (u:=v) (d:=((d*e).deg v).toNat) hv oM;omega)
 have X:∀y∈x,y<pr:=ww hx λy hy=>by rw[(List.mem_replicate.1 hy).2];decide
 have a6:x≠[]:=λh=>by rw[h]at O;simp at O;omega
 have b:x.getD (x.length-1) 0≠0:=of_decide_eq_true hf
 -- the congruence of polynomials
 have ⟨k,W⟩:∃k:Nat->Int,∀i,i<L->(N:Int)*x.getD i 0=cS N v t i (d*e).l+2147483647*k i :=
  ⟨λi=>((N:Int)*x.getD i 0-cS N v t i (d*e).l)/2147483647,λi q=>by
   obtain⟨k,W⟩:=h2 i q;rw[Ef]at W
   simp only[W];omega⟩
 have J:c (N:Rat)*qY v x=c (N:Rat)*jl v t 4 (d*e)+c (pr:Rat)*cO (λi=>c (k i:Rat)*xk v i) L:=MV v λi=>by
  have hK:(cO (λi=>c (k i:Rat)*xk v i) L).co v i=if i<L then c (k i:Rat)else 0:=by
   rw[tu];split
   ·rename_i hj;rw[qw _ hj λj _ q=>by rw[co_mul_fr (ow _ _),fP,if_neg (Ne.symm q)];grind];rw[co_mul_fr (ow _ _),fP,if_pos rfl];grind
   ·rename_i hj;rw[dI (g:=λ_=>0) λj hj=>by rw[co_mul_fr (ow _ _),fP,if_neg oM];grind,nJ]
  rw[co_add,co_mul_fr (ow _ _),co_mul_fr (ow _ _),co_mul_fr (ow _ _),hK,oD];rcases Nat.lt_or_ge i L with q|q
  ·rw[if_pos q,hz,mR,mR,<-VV];congr 1;have:=congrArg (λz:Int=>(z:Rat)) (W i q);simp only[Rat.intCast_add,Rat.intCast_mul,iN]at this;rw[this,jI];rfl
  ·rw[if_neg oM,S i q,a7 i q];have e1:c ((0:Nat):Rat)=0:=rfl;rw[e1];grind
 obtain⟨M,K,a2⟩:=Z0 I
 have a0:Va v (jl v t 4 D) x:=by
  refine⟨c (M:Rat)*jl v t 4 E,c (M:Rat)*cO (λi=>c (k i:Rat)*xk v i) L-c (K:Rat)*qY v x,jr (xw 1 _) (yR v t 4 iE),Dz (jr (xw 1 _) (yI λi _=>jr (xw 1 _) (Ou v i))) (jr (xw 1 _) (Tn v x)),?_⟩
  have Z:c (N:Rat)*c (M:Rat)=1+c (pr:Rat)*c (K:Rat):=by rw[mR,mR,<-Aw,<-VV];congr 1;have:=congrArg (λz:Int=>(z:Rat)) a2;simp only[Rat.intCast_add,Rat.intCast_mul,iN]at this;exact this
  have h4:c (M:Rat)*(c (N:Rat)*qY v x)=c (M:Rat)*(jl v t 4 D*jl v t 4 E+c (pr:Rat)*cO (λi=>c (k i:Rat)*xk v i) L):=by rw[J,o]
  grind
 have s:¬DF pr ((c (N:Rat)*jl v t 4 (d*e)).co v (L-1)):=λ⟨Y,iY,eY⟩=>by
  rw[co_mul_fr (ow _ _),hz]at eY;have Z:=congrArg (λg:MP=>cf g.l e0) eY
  have a4:∀r:Rat,cf (c r).l e0=r:=λr=>by
   show cf (bW r) e0=r;unfold bW;split
   ·rename_i h;rw[h];rfl
   ·rw[bK,jK,if_pos rfl];exact Rat.add_zero _
  simp only[qW,a4]at Z;obtain⟨y,hy⟩:=jB (FX iY e0);rw[hy,<-iN,<-Rat.intCast_mul]at Z;have h4:=Rat.intCast_inj.1 Z;have h5:=W (L - 1) oM
  have h6:pr∣N*x.getD (L-1) 0:=by refine Int.ofNat_dvd.1 ⟨y+k (L-1),?_⟩;rw[Int.natCast_mul,h5,h4,jI,Int.mul_add];rfl
  rcases DL DN h6 with h7|h7
  ·exact I h7
  ·rw[O]at b;have h8:=Nat.le_of_dvd (Nat.pos_of_ne_zero b) h7
   have h9:x.getD (L-1) 0<pr:=by rw[jD,gE (by omega:L-1<x.length)];exact X _ (List.getElem_mem _)
   omega
 have B:c (N:Rat)*jl v t 4 (d*e)≠0:=λh=>s (by rw[h];exact vg pr)
 have a5:(L-1:Nat)<=(c (N:Rat)*jl v t 4 (d*e)).deg v:=by
  rcases Int.lt_or_le ((c (N:Rat)*jl v t 4 (d*e)).deg v) (L - 1:Nat)with h|h
  ·exact absurd (by rw[co_above h];exact vg pr) s
  ·exact h
 have C:jl v t 4 D≠0:=λh=>B (by rw[o,h];grind);have F:jl v t 4 E≠0:=λh=>B (by rw[o,h];grind);have aa:D.deg v=d.deg v:=by rw[hD,deg_mul (zR hr) d0,qp (ow _ _) (zR hr)];omega
 have ab:E.deg v=e.deg v:=by have R:c ((N:Rat)*r⁻¹)≠0:=zR (jm (jQ a3) λh=>by have:=Rat.mul_inv_cancel _ hr;rw[h]at this;grind);rw[hE,deg_mul R G,qp (ow _ _) R];omega
 have ag:=deg_mul d0 G v;have ac:=vG v t hv 4 (nL _) (p:=D) (u:=v) (d:=(D.deg v).toNat) hv oM;have ad:=vG v t hv 4 (nL _) (p:=E) (u:=v) (d:=(E.deg v).toNat) hv oM;have al:=deg_pos d0 v;have an:=deg_pos G v;rw[o,deg_mul C F]at a5;have a1:(jl v t 4 D).deg v=d.deg v:=oM;refine⟨⟨a0,λ_=>b,X⟩,a6,yR v t 4 hp.1,λa8=>s ?_,a1⟩;have:L-1=((jl v t 4 D).deg v).toNat+((jl v t 4 E).deg v).toNat:=oM;rw[o,this,wS v C F];exact N8 a8 (VW (yR v t 4 iE) _ _)
theorem Gj{v t:Nat}(hv:v<4){a b d:MP}(ha:a≠0)(hb:b≠0)(o:∀m∈a.l,∀w,m.1.get w<18446744073709551616)(p:∀m∈b.l,∀w,m.1.get w<18446744073709551616)(h:d∣a)(k:d∣b){x y:List Nat}
  (E:ji a.l v t=some x) (q:iQ (some x)=true) (F:ji b.l v t=some y) (s:iQ (some y)=true) {n:Nat} (j:nQ x y=some n):d.deg v+1<=n:=by
 obtain⟨r,z,hp⟩:=VO (dvd_ne ha h);have e:=Tv hv ha o z hp h E q;have u:=Tv hv hb p z hp k F s
 have key:∃l,Gd v (jl v t 4 (c r*d)) l/\l≠[]/\l.length=n:=by
  unfold nQ at j;split at j
  ·exact Gd.share j u.g e.g u.ne
  ·exact Gd.share j e.g u.g e.ne
 obtain⟨l,B,C,D⟩:=key;have:=B.len C e.i e.l;rw[e.dg,D]at this;omega
theorem vH{v:Nat}(hv:v<4){a b d:MP}(ha:a≠0)(hb:b≠0)(j:∀m∈a.l,∀w,m.1.get w<18446744073709551616)(o:∀m∈b.l,∀w,m.1.get w<18446744073709551616)(e:d∣a)(i:d∣b) :
  ∀{l:List Nat}{m:Int},kH a.l b.l v l=some m->d.deg v<=m
 | [],m,h=>by simp only[kH,sJ]at h;have s:=dvd_deg ha e v;have u:=dvd_deg hb i v;have e1:a.deg v=aD a.l v:=rfl;have r:b.deg v=aD b.l v:=rfl;omega
 | k::l,m,h=>by
  rw[kH]at h;split at h
  ·rename_i x y p q;split at h
   ·rename_i hf;rw[Bool.and_eq_true]at hf
    cases hs:nQ x y with
    | none=>rw[hs]at h;cases h
    | some n =>
     rw[hs]at h;have h:some ((n:Int)-1)=some m:=h;have h:=Option.some.inj h;have:=Gj hv ha hb j o e i p hf.1 q hf.2 hs;omega
   ·exact vH hv ha hb j o e i h
  ·exact vH hv ha hb j o e i h
theorem Kz{b:List Nat}(hb:b≠[])(s:Tp b)(hm:∀x∈b,x<pr):∀(n:Nat)(r:List Nat),r.length<n->(∀x∈r,x<pr)->∃x,lS b (jN (b.getD (b.length-1) 0) (pr-2)) n r=some x/\x.length<b.length
 | 0,_,h,_=>by omega
 | n+1,r,h,hr=>by
  rw[lS];have D:=List.length_pos_iff.2 hb;split
  ·rename_i lv;obtain⟨f,hf⟩:∃f,f=r.getD (r.length - 1) 0*jN (b.getD (b.length - 1) 0) (pr - 2)%pr:=⟨_,rfl⟩;rw[<-hf]
   have F:(strip (fJ b r f (r.length-b.length) b.length)).length<r.length:=by
    have p:=Tt (l:=fJ b r f (r.length-b.length) b.length) (λe=>by have:=rZ b r f (r.length-b.length) b.length;rw[e]at this;simp at this;omega) (by
     rw[rZ,Ad b.length oM,if_pos oM,(oM:r.length - 1 - (r.length - b.length)=b.length - 1)];have d:=s hb;obtain⟨y,u⟩:∃y,y=b.getD (b.length - 1) 0:=⟨_,rfl⟩;have o:y<pr:=by rw[u,jD,gE (by omega:b.length - 1<b.length)];exact hm _ (List.getElem_mem _)
     rw[<-u]at d hf ⊢;obtain⟨z,hz⟩:∃z,z=r.getD (r.length - 1) 0:=⟨_,rfl⟩;rw[<-hz]at hf ⊢;have q:=ME (Nat.pos_of_ne_zero d) o;obtain⟨i,m⟩:∃i,i=jN y (pr - 2):=⟨_,rfl⟩;rw[<-m]at q hf;have c1:=Cg.mod (z*i);rw[<-hf]at c1;have c2:=Cg.mod (i*y);rw[q]at c2
     have C:Cg ((z+(pr-y)*f:Nat):Int) 0:=by
      rw[Int.natCast_add,Int.natCast_mul,Int.ofNat_sub oM];obtain⟨B,j⟩:=c1;obtain⟨k2,k⟩:=c2;rw[Int.natCast_mul]at j k;refine⟨f - y*B+z*k2,?_⟩;rw[jI];have e1:(y:Int)*f=y*(z*i+2147483647*B):=by rw[j]
      have E:(z:Int)=z*(i*y+2147483647*k2):=by rw[<-k];omega
      grind
     exact Nat.mod_eq_zero_of_dvd (Int.ofNat_dvd.1 (by rw[jI];exact C.zero)))
    rw[rZ]at p;exact p
   exact Kz hb s hm n _ oM (Ac (wm hr _))
  ·exact⟨r,rfl,oM⟩
theorem Gd.tp_rest{b:List Nat}(inv:Nat):∀{n:Nat}{r x:List Nat},lS b inv n r=some x->Tp r->(∀y∈r,y<pr)->Tp x/\∀y∈x,y<pr
 | 0,_,_,h,_,_=>by cases h
 | n+1,r,x,h,hr,hm=>by
  rw[lS]at h;split at h
  ·exact Gd.tp_rest inv h (yT _) (Ac (wm hm _))
  ·simp only[sJ]at h;subst h;exact⟨hr,hm⟩
theorem xB:∀(n:Nat)(a b:List Nat),b.length<n->a.length<fuel->b.length<fuel->Tp a->Tp b->(∀x∈a,x<pr)->(∀x∈b,x<pr)->∃k,iO n a b=some k
 | 0,_,_,h,_,_,_,_,_,_=>by omega
 | n+1,a,b,h,ha,hb,ta,tb,ma,mb=>by
  rw[iO];split
  ·exact⟨_,rfl⟩
  ·rename_i e;obtain⟨x,i,j⟩:=Kz e tb mb fuel a ha ma;have d:=Gd.tp_rest _ i ta ma;rw[i];exact xB n b x oM hb oM tb d.1 mb d.2
theorem BQ{a:List aj}{v t:Nat}{x:List Nat}(h:ji a v t=some x):x.length=(aD a v+1).toNat:=by
 have key:∀{l:List aj}{out x:List Nat},jJ v t l out=some x->x.length=out.length:=by
  intro l
  induction l with
  | nil=>intro out x h;simp only[jJ,sJ]at h;subst h;rfl
  | cons m l b =>
   intro out x h;rw[jJ]at h;split at h
   ·cases h
   ·rw[b h,List.length_set]
 rw[key h,List.length_replicate]
theorem ug{a b:List aj}{v:Nat}(ha:aD a v+1<fuel)(hb:aD b v+1<fuel):∀l,∃m,kH a b v l=some m
 | []=>⟨_,rfl⟩
 | k::l=>by
  rw[kH];split
  ·rename_i x y e d;split
   ·rename_i hf;rw[Bool.and_eq_true]at hf;have q:=BQ e;have r:=BQ d;have j:Tp x:=λ_=>of_decide_eq_true hf.1;have ty:Tp y:=λ_=>of_decide_eq_true hf.2;have h:∀z∈x,z<pr:=ww e λy d=>by rw[(List.mem_replicate.1 d).2];decide
    have i:∀z∈y,z<pr:=ww d λy d=>by rw[(List.mem_replicate.1 d).2];decide
    have o:0<fuel:=dM
    have key:∃n,nQ x y=some n:=by
     unfold nQ;split
     ·exact xB fuel y x oM oM oM ty j i h
     ·exact xB fuel x y oM oM oM j ty h i
    obtain⟨n,p⟩:=key;rw[p];exact⟨_,rfl⟩
   ·exact ug ha hb l
  ·exact ug ha hb l
end Q
end
section
namespace Q
open MP Go.Proofs.YtopclbeomcggiaaGreat
theorem Ae(D:List (List aj)):∀(f:Nat)(R:List (List aj)),R.length<=D.length-1+f->(gH D f R).length<=max (D.length-1) 0
 | 0,R,h=>by simp only[gH];omega
 | f+1,R,h=>by
  unfold gH;by_cases b:D.length-1<R.length
  ·rw[if_pos b];exact Ae D f _ (by rw[iL];omega)
  ·rw[if_neg b];omega
def Vd (v:Nat) (L:List (List aj)):Prop:=∀c∈L,∀t∈c,t.1.get v=0
theorem Vd.get{v:Nat}{L:List (List aj)}(h:Vd v L)(i:Nat):∀t∈L.getD i [],t.1.get v=0:=by
 rw[jD]
 cases hi:L[i]? with
 | none=>intro t b;cases b
 | some c=>exact h c (List.mem_of_getElem? hi)
theorem IB{v:Nat}{p q:List aj}(hp:∀t∈p,t.1.get v=0)(hq:∀t∈q,t.1.get v=0):∀t∈aZ p q,t.1.get v=0 :=
 mf (P:=λe=>e.get v=0) λt d=>by obtain⟨a,ha,b,hb,rfl⟩:=nC d;show(a.1.add b.1).get v=0;rw[Ex.get_add,hp a ha,hq b hb];rfl
theorem Ve{v:Nat}{p q:List aj}(hp:∀t∈p,t.1.get v=0)(hq:∀t∈q,t.1.get v=0):∀t∈gp p q,t.1.get v=0 :=
 mf (P:=λe=>e.get v=0) λt d=>by
  rcases List.mem_append.1 d with h|h
  ·exact hp t h
  ·obtain⟨s,b,rfl⟩:=zQ h;exact hq s b
theorem Qg{v:Nat}{D R:List (List aj)}(b:Vd v D)(d:Vd v R):Vd v (fZ D R):=λc hc=>by
 simp only[fZ,List.mem_map]at hc;obtain⟨i,-,rfl⟩:=hc;split
 ·exact Ve (IB (d.get _) (b.get _)) (IB (d.get _) (b.get _))
 ·exact IB (d.get _) (b.get _)
theorem Eh{v:Nat}{D:List (List aj)}(b:Vd v D):∀(f:Nat)(R:List (List aj)),Vd v R->Vd v (gH D f R)
 | 0,_,h=>h
 | f+1,R,h=>by unfold gH;split;exact Eh b f _ (Qg b h);exact h
theorem Gl(p:List aj)(v:Nat):Vd v (aB p v):=λc hc t b=>by obtain⟨n,rfl⟩:=fH hc;obtain⟨u,_,rfl⟩:=List.mem_map.1 b;exact Ex.get_put _ _ _
theorem xC{p:List aj}(h:bQ p)(v:Nat):Be (aB p v):=λc hc=>by obtain⟨n,rfl⟩:=fH hc;exact h.coeff v n
def oO (v:Nat) (a b:MP):MP:=⟨uD (gH (aB b.l v) (aB a.l v).length (aB a.l v)) v,fB _⟩
theorem Tw{a b:MP}{v:Nat}{r:List aj}(h:Ub a.l b.l v=some r):r=(oO v a b).l/\b≠0:=by
 unfold Ub at h;simp only at h;split at h
 ·rename_i hc;exact⟨(kG h).1,λe=>hc.1 (by rw[e];rfl)⟩
 ·cases h
theorem MW(x:Pt)(v:Nat){L:List (List aj)}(h:Be L):ev x (uD L v)=SH x v L:=GR x v λc hc=>(h c hc).nat
theorem Gm{a b:MP}(hb:b≠0)(v:Nat):∃(q:MP)(s:Nat),(b.lc v)^s*a=q*b+oO v a b/\(oO v a b).deg v<=b.deg v-1:=by
 have k:=xC b.v v;have j:=xC a.v v;have p:=deg_pos hb v;have d:(aB b.l v).length=(b.deg v).toNat+1:=by rw[eB];have e:aD b.l v=b.deg v:=rfl;omega
 have lv:(aB a.l v).length<=(aB b.l v).length-1+(aB a.l v).length:=oM;refine⟨⟨AP v (aB b.l v) (aB a.l v).length (aB a.l v),F6 _ _ _ _⟩,(aB a.l v).length-((aB b.l v).length-1),MP.ext' λx=>?_,?_⟩
 ·have h:=Oe x v k oM (aB a.l v).length (aB a.l v) j lv;have m:SH x v (aB a.l v)=ev x a.l:=by rw[<-MW x v j,Ar a.v]
  have n:SH x v (aB b.l v)=ev x b.l:=by rw[<-MW x v k,Ar b.v]
  have o:SH x v (gH (aB b.l v) (aB a.l v).length (aB a.l v))=MP.ev x (oO v a b):=(MW x v (zS _ _ _ j)).symm
  have el:ev x ((aB b.l v).getD ((aB b.l v).length-1) [])=MP.ev x (b.lc v):=by rw[d,Nat.add_sub_cancel,Aq (by have e:aD b.l v=b.deg v:=rfl;omega)];rfl
  rw[m,n,o,el]at h;rw[MP.ev_add,MP.ev_mul,MP.ev_mul,MP.ev_pow];show _*ev x a.l=ev x (AP v (aB b.l v) _ _)*ev x b.l+_;grind
 ·obtain⟨L,hL⟩:∃L,L=gH (aB b.l v) (aB a.l v).length (aB a.l v):=⟨_,rfl⟩;have y:=Ae (aB b.l v) (aB a.l v).length (aB a.l v) lv;have hf:=Eh (Gl b.l v) (aB a.l v).length (aB a.l v) (Gl a.l v);have hv:=zS (aB b.l v) (aB a.l v).length (aB a.l v) j
  have e:oO v a b=cO (λi=>⟨(gH (aB b.l v) (aB a.l v).length (aB a.l v)).getD i [],hv.get i⟩*xk v i) (gH (aB b.l v) (aB a.l v).length (aB a.l v)).length:=MP.ext' λx=>by rw[GY];show ev x (uD _ v)=_;rw[GR x v λc hc=>(hv c hc).nat];refine mG λi _=>?_;rw[MP.ev_mul,ev_xk];rfl
  rw[e];refine qx oM λi u=>?_;have h0:(⟨(gH (aB b.l v) (aB a.l v).length (aB a.l v)).getD i [],hv.get i⟩:MP).fr v:=VB (hf.get i);have r:=dh v _ (xk v i) h0 (Int.le_of_eq (deg_xk v i)) oM;omega
theorem Af{b g:List aj}{gt:aj}(hb:bQ b)(hg:b=gt::g):∀{n:Nat}{a out res:List aj},bQ a->dX out->rW b gt n a out=some (some res)->dX res/\∀x,ev x res*ev x b=ev x out*ev x b+ev x a
 | 0,_,_,_,_,_,h=>by simp[rW]at h
 | n+1,[],out,res,_,ho,h=>by simp only[rW,sJ]at h;subst h;exact⟨ho,λx=>by rw[jv];grind⟩
 | n+1,m::a,out,res,ha,ho,h=>by
  rw[rW]at h;split at h
  ·split at h
   ·rename_i i;split at h
    ·have hq:dX [gQ m gt]:=λt j=>by rw[List.mem_singleton.1 j];exact i
     obtain⟨d,e⟩:=Af hb hg (bQ.sub _ _) (ho.append hq) h;refine⟨d,λx=>?_⟩;rw[e x,pU,Q.ev_sub x ha.nat (bQ.mul _ _),Q.ev_mul x hb.nat hq];grind
    ·cases h
   ·cases h
  ·cases h
theorem Gn{b g:List aj}{gt:aj}(hb:bQ b)(hg:b=gt::g):∀{n:Nat}{a out:List aj},bQ a->rW b gt n a out=some none->∀q,bQ q->a≠aZ q b
 | 0,_,_,_,h=>by simp[rW]at h
 | n+1,[],out,_,h=>by simp[rW]at h
 | n+1,m::a,out,ha,h=>by
  intro q hq e;subst hg;have hz:=(hb.2 gt sM).1
  cases q with
  | nil=>cases e
  | cons x s =>
   have l:=hq.2 x sM;obtain⟨p,r⟩:=BM hq hb;obtain⟨a',d⟩:=BL (bQ.mul _ _) (jm l.1 hz) p r;rw[d]at e;have o:m=(x.1.add gt.1,x.2*gt.2):=(List.cons.inj e).1;have i:gQ m gt=x:=by rw[o];exact Dw hz
   have k:(m.1.sub gt.1).nat=true:=by
    have:(gQ m gt).1=x.1:=by rw[i]
    show(gQ m gt).1.nat=true;rw[this];exact l.2
   rw[rW]at h;split at h
   ·split at h
    ·have j:=Dx hq hb bQ.nil;have e0:oH (aZ (x::s) (gt::g)) []=aZ (x::s) (gt::g):=zi (bQ.add _ _) (bQ.mul _ _) λy=>by rw[Q.ev_add y (bQ.mul _ _).nat dX.nil,jv];grind
     have e1:oH (aZ s (gt::g)) []=aZ s (gt::g):=zi (bQ.add _ _) (bQ.mul _ _) λy=>by rw[Q.ev_add y (bQ.mul _ _).nat dX.nil,jv];grind
     rw[e0,e1]at j;refine Gn hb rfl (bQ.sub _ _) h s hq.tail ?_;rw[i,e,<-d,j]
    ·cases h
   ·cases h
theorem Ei{a b q:MP}{r:List aj}(hb:b≠0)(e:a=q*b)(h:gT a.l b.l=some r):r=q.l:=by
 obtain⟨t,l,d⟩:=je hb;unfold gT zU at h;rw[d]at h;simp only at h;split at h
 ·rename_i o k
  cases o with
  | none=>exact absurd (show a.l=aZ q.l (t::l) by rw[<-d];exact congrArg MP.l e) (Gn (d▸b.v) rfl a.v k q.l q.v)
  | some j =>
   obtain⟨s,m⟩:=Af (d▸b.v) rfl a.v dX.nil k;obtain⟨i,n⟩:=kG h;have i:r=j:=i;subst i;have hv:bQ r:=n.val
   have:(⟨r,hv⟩:MP)*b=q*b:=MP.ext' λx=>by rw[MP.ev_mul,<-e];have:=m x;rw[jv,<-d]at this;show ev x r*ev x b.l=ev x a.l;grind
   have p:b*(⟨r,hv⟩:MP)=b*q:=gR;exact congrArg MP.l (MP.cancel hb p)
 ·cases h
def hd (a:MP):Rat:=match a.l with
 | []=>0
 | t::_=>t.2
def nrm (a:MP):MP:=c (1/hd a)*a
theorem yU{a:MP}(h:a≠0):hd a≠0:=by obtain⟨t,l,e⟩:=je h;have:=(a.v.2 t (by rw[e];simp)).1;unfold hd;rw[e];exact this
theorem wD{r:Rat}(b:r≠0)(a:MP):hd (c r*a)=hd a*r:=by
 unfold hd;rw[tQ];show(match bS a.l r with|[]=>0|t::_=>t.2)=_;unfold bS;rw[if_neg b]
 cases a.l with
 | nil=>simp
 | cons t l=>rfl
theorem jY{a:MP}(h:a≠0):hd (nrm a)=1:=by
 have b:=yU h
 have d:(1:Rat)/hd a≠0:=λe=>by have:=Rat.div_mul_cancel (a:=1) b;rw[e]at this;grind
 rw[nrm,wD d];have:=Rat.div_mul_cancel (a:=1) b;grind
theorem jV:nrm 0=0:=by rw[nrm];grind
theorem eu{a:MP}(h:a≠0):nrm a∣a/\a∣nrm a:=by
 have b:=yU h;refine⟨⟨c (hd a),?_⟩,⟨c (1/hd a),by rw[nrm];grind⟩⟩;have d:c (1/hd a)*c (hd a)=1:=by rw[mR,Rat.div_mul_cancel b];rfl
 rw[nrm];grind
theorem yV{a:MP}{r:List aj}(h:mr a.l=some r):r=(nrm a).l:=by
 cases e:a.l with
 | nil =>
  rw[e]at h;simp only[mr,sJ]at h;rw[zero_iff.2 e,jV,<-h];rfl
 | cons t l =>
  rw[e]at h;simp only[mr]at h;rw[(kG h).1,nrm,tQ];have:hd a=t.2:=by unfold hd;rw[e]
  rw[this];show _=bS a.l (1/t.2);rw[e]
theorem Ej{a b:MP}(ha:a≠0)(d:a∣b)(h:b∣a)(n1:hd a=1)(n2:hd b=1):a=b:=by obtain⟨u,rfl⟩:=d;have hu:=unit_cancel ha h;obtain⟨r,rfl⟩:=kL (QT hu);have i:r≠0:=λe=>Bz hu (by rw[e];rfl);have e:a*c r=c r*a:=gR;rw[e,wD i,n1]at n2;have:r=1:=gR;rw[this,Aw];grind
structure NG (g a b:MP):Prop where
 i:jw g a b
 n:g≠0->hd g=1
theorem pO:Ir=(1:MP).l:=by show [(e0,(1:Rat))]=bW ((1:Nat):Rat);rw[show((1:Nat):Rat)=1 from rfl,bW,if_neg dM]
theorem jC(a b:MP):a*b=b*a:=gR
theorem qI:hd 1=1:=by unfold hd;rw[<-pO];rfl
theorem xD{a b:MP}(h:a.unit\/b.unit):jw 1 a b :=
 ⟨unit_dvd unit_one a,unit_dvd unit_one b,λd e i=>h.elim (λh=>unit_of_dvd e h) λh=>unit_of_dvd i h⟩
theorem qd{g a b:MP}(h:jw g a b)(h0:g≠0):jw (nrm g) a b:=by obtain⟨e,i⟩:=eu h0;exact⟨dvd_trans e h.l,dvd_trans e h.r,λd x y=>dvd_trans (h.u d x y) i⟩
theorem MX{g:MP}(h:g≠0):nrm g≠0:=dvd_ne h (eu h).1
theorem jW{g a b:MP}(h:jw g a b)(h0:a≠0):g≠0:=dvd_ne h0 h.l
theorem vI{g:MP}(h:lX g.l=true):g.unit:=by
 obtain⟨l,v⟩:=g
 cases l with
 | nil=>cases h
 | cons t l =>
  cases l with
  | cons _ _=>cases h
  | nil =>
   have he:t.1=e0:=of_decide_eq_true h
   have:(⟨[t],v⟩:MP)=c t.2:=MP.eq_of (by
    show [t]=bW t.2
    rw[bW,if_neg (v.2 t sM).1,<-he])
   rw[this];exact zo (v.2 t sM).1
def Ov (G:List aj->List aj->Option (List aj)):Prop:=∀(a b:MP)(r:List aj),G a.l b.l=some r->∃g:MP,r=g.l/\NG g a b
theorem Ow{G:List aj->List aj->Option (List aj)}(q:Ov G):∀(L:List (List aj))(b:MP)(r:List aj),Be L->(b≠0->hd b=1)->vB G b.l L=some r ->
  ∃g:MP,r=g.l/\g∣b/\(∀(f:MP),f.l∈L->g∣f)/\(∀d,d∣b->(∀f:MP,f.l∈L->d∣f)->d∣g)/\(g≠0->hd g=1)
 | [],b,r,_,hn,h=>by simp only[vB,sJ]at h;exact⟨b,h.symm,dvd_refl _,λf hf=>(by cases hf),λd h _=>h,hn⟩
 | a::L,b,r,hv,hn,h=>by
  rw[vB]at h;have ha:bQ a:=hv a sM;split at h
  ·cases h
  ·rename_i x p;obtain⟨g,rfl,hg⟩:=q b ⟨a,ha⟩ x p;have o:∀f:MP,f.l=a->f=⟨a,ha⟩:=λf e=>MP.eq_of e;split at h
   ·rename_i hc;simp only[sJ]at h;have hu:=vI hc;refine⟨g,h.symm,hg.i.l,λf _=>unit_dvd hu f,λd m j=>hg.i.u d m (j ⟨a,ha⟩ sM),hg.n⟩
   ·obtain⟨k,e,s,k2,y,z⟩:=Ow q L g r (λc hc=>hv c (by simp[hc])) hg.n h;refine⟨k,e,dvd_trans s hg.i.l,λf hf=>?_,λd m j=>y d (hg.i.u d m (j ⟨a,ha⟩ sM)) λf hf=>j f (by simp[hf]),z⟩;rcases List.mem_cons.1 hf with e|hf
    ·rw[o f e];exact dvd_trans s hg.i.r
    ·exact k2 f hf
theorem qJ{G:List aj->List aj->Option (List aj)}(q:Ov G){a:MP}{v:Nat}{r:List aj}(h:ni G a.l v=some r):∃g:MP,r=g.l/\uG v g a/\(g≠0->hd g=1):=by
 obtain⟨g,e,s,m,k,o⟩:=Ow q _ (0:MP) r (xC a.v v) (λh=>absurd rfl h) h
 have b:∀n,g∣a.co v n:=λn=>by
  rcases Nat.lt_or_ge n (aD a.l v+1).toNat with i|i
  ·refine m _ ?_;show aR a.l v n∈aB a.l v;exact List.mem_map.2 ⟨n,List.mem_range.2 i,rfl⟩
  ·rw[co_above (by have e:a.deg v=aD a.l v:=rfl;have:=deg_ge v a;omega)];exact dvd_zero g
 have hf:g.fr v:=by
  by_cases ha:a=0
  ·have:g=0:=by
    have p:=k 0 (dvd_refl 0) λf hf=>by rw[ha]at hf;cases hf
    exact zero_dvd p
   rw[this];exact qR v
  ·exact sI (lc_ne ha v) (b _) (lc_fr v a)
 refine⟨g,e,⟨hf,(dvd_iff_co hf a).2 b,λd hd j=>k d (dvd_zero d) λf hf=>?_⟩,o⟩;obtain⟨n,i⟩:=fH hf;have:f=a.co v n:=MP.eq_of i;rw[this];exact(dvd_iff_co hd a).1 j n
theorem Tx{G:List aj->List aj->Option (List aj)}(i:Ov G){a:MP}{v:Nat}{r:List aj}(h0:a≠0)(h:lN G a.l v=some r):∃c q:MP,r=q.l/\a=c*q/\c≠0/\c.fr v/\q.prim v:=by
 obtain⟨t,l,d⟩:=je h0;unfold lN at h;rw[d]at h;simp only at h;rw[<-d]at h;split at h
 ·cases h
 ·rename_i c0 hc;obtain⟨g,rfl,hg,_⟩:=qJ i hc;obtain⟨q,e,hq,b⟩:=jA hg h0;exact⟨g,q,Ei (q:=q) b (e.trans (jC g q)) h,e,b,hg.f,hq⟩
theorem wE{v:Nat}(hv:v<4){b:MP}(hb:b.lo (v+1)):∀s:Nat,((b.lc v)^s).lo v
 | 0=>by have e:(b.lc v)^0=1:=gR;rw[e];exact Ck v
 | s+1=>by have e:(b.lc v)^(s+1)=(b.lc v)^s*b.lc v:=gR;rw[e];exact kK (wE hv hb s) (Av hv hb)
theorem IC{b:MP}(hb:b≠0):∀s:Nat,b^s≠0
 | 0=>by have e:b^0=1:=gR;rw[e];exact one_ne
 | s+1=>by have e:b^(s+1)=b^s*b:=gR;rw[e];exact mul_ne (IC hb s) hb
theorem qK{n:Nat}{a b c:MP}(hb:b≠0)(hc:c≠0)(e:a=b*c)(h:a.lo n):c.lo n:=gV (by rw[e];exact mul_ne hb hc) (by rw[e];exact dvd_mul_left _ _) h
theorem MZ{n:Nat}{a:MP}(h:a.lo n):(nrm a).lo n:=by
 by_cases h0:a=0
 ·rw[h0,jV];exact Nr n
 ·exact gV h0 (eu h0).1 h
theorem Vf{v:Nat}(hv:v<4){a b q:MP}{s:Nat}(e:(b.lc v)^s*a=q*b+oO v a b)(y:b≠0)(ha:a.lo (v+1))(hb:b.lo (v+1)):(oO v a b).lo (v+1):=λw m k=>by
 -- the pseudo-remainder is made of the coefficients by ring operations
 have r:∀L:List (List aj),(∀c∈L,∀t∈c,t.1.get w=0)->∀D:List (List aj),(∀c∈D,∀t∈c,t.1.get w=0)->∀f,∀c∈gH D f L,∀t∈c,t.1.get w=0:=λL hL D x f=>Eh (v:=w) x f L hL
 have j:∀p:MP,p.lo (v+1)->∀c∈aB p.l v,∀t∈c,t.1.get w=0:=λp hp c hc t d=>by obtain⟨n,rfl⟩:=fH hc;obtain⟨u,hu,rfl⟩:=List.mem_map.1 d;show(u.1.put v 0).get w=0;rw[Ex.get_put_ne _ hv k oM];exact fr_get (hp w m k) (List.mem_filter.1 hu).1
 have o:=r _ (j a ha) _ (j b hb) (aB a.l v).length;refine VB ?_
 have hL:∀(L:List (List aj))(i:Nat),(∀c∈L,∀t∈c,t.1.get w=0)->∀t∈fromL v i L,t.1.get w=0:=λL=>by
  induction L with
  | nil=>intro i _ t d;cases d
  | cons c L z =>
   intro i h t d;simp only[fromL,List.mem_append]at d;rcases d with d|d
   ·obtain⟨u,hu,rfl⟩:=List.mem_map.1 d;show(u.1.put v _).get w=0;rw[Ex.get_put_ne _ hv k oM];exact h c sM u hu
   ·exact z (i+1) (λc hc=>h c (by simp[hc])) t (by simpa using d)
 exact mf (P:=λe=>e.get w=0) (hL _ 0 o)
theorem KA{G:List aj->List aj->Option (List aj)}(M:Ov G){v:Nat}(hv:v<4):∀(n:Nat)(a b:MP)(r:List aj),a.lo (v+1)->b.lo (v+1)->a.prim v->b.prim v->rX G v n a.l b.l=some r->∃s:MP,r=s.l/\jw s a b
 | 0,_,_,_,_,_,_,_,h=>by cases h
 | n+1,a,b,r,la,lb,pa,pb,h=>by
  have L:=oI v oM;have b0:=bZ pb;have Z:=bZ pa;rw[rX]at h;obtain⟨q,s,e,N⟩:=Gm (a:=a) b0 v;have H:=wE hv lb s;have z:=IC (lc_ne b0 v) s;have y:=Vf hv e b0 la lb;have i:∀d:MP,d.prim v->d∣b->d∣oO v a b->d∣a:=λd X o m=>fA L hv la X H z (by rw[e];exact dvd_add (dvd_mul_of' o q) m)
  have hrem:∀d:MP,d∣a->d∣b->d∣oO v a b:=λd o m=>by
   have S:oO v a b=(b.lc v)^s*a-q*b:=by rw[e];grind
   rw[S];exact dvd_sub (dvd_mul_of' o _) (dvd_mul_of' m _)
  split at h
  ·cases h
  ·rename_i hp;have hz:=(Tw hp).1;simp only[sJ]at h;have j:oO v a b=0:=zero_iff.2 hz.symm;exact⟨b,h.symm,i b pb (dvd_refl b) (by rw[j];exact dvd_zero b),dvd_refl b,λd _ h=>h⟩
  ·rename_i t l hp;have hz:=(Tw hp).1;have j:oO v a b≠0:=λh0=>by rw[zero_iff.1 h0]at hz;cases hz
   split at h
   ·rename_i E;simp only[sJ]at h;have W:(oO v a b).deg v=0:=by show aD (oO v a b).l v=0;rw[<-hz];exact E
    refine⟨1,by rw[<-h,pO],unit_dvd unit_one a,unit_dvd unit_one b,λd o m=>?_⟩;have hd:=dvd_deg j (hrem d o m) v;exact pb d (by show d.deg v<=0;omega) m
   ·rw[hz]at h;split at h
    ·cases h
    ·rename_i p I;obtain⟨c,Y,rfl,D,c0,cf,hq⟩:=Tx M j I;split at h
     ·cases h
     ·rename_i k F;have F:=yV F;subst F;have R:=bZ hq;have O:=qK c0 R D y;obtain⟨C,K⟩:=eu R;obtain⟨x,ex,B⟩:=KA M hv n b (nrm Y) r lb (MZ O) pb (jT hq C) h;have J:c.lo v:=qh (gV j (by rw[D];exact dvd_mul_right _ _) y) cf;refine⟨x,ex,i x (jT pb B.l) B.l ?_,B.l,λd o m=>B.u d m (dvd_trans ?_ K)⟩
      ·rw[D];exact dvd_mul_of' (dvd_trans B.r C) c
      ·exact fA L hv O (jT pb m) J c0 (by rw[<-D];exact hrem d o m)
theorem Ox{G:List aj->List aj->Option (List aj)}(z:Ov G){v:Nat}(hv:v<4){a b:MP}{r:List aj}(wa:Wp a.l)(wb:Wp b.l)(D:a.lo (v+1))(lb:b.lo (v+1))(u:a.prim v)(pb:b.prim v)(h:Bf G a.l b.l v=some r):∃s:MP,r=s.l/\jw s a b:=by
 have y:=bZ u;have b0:=bZ pb;have hex:∀p:MP,Wp p.l->∀m∈p.l,∀w,m.1.get w<18446744073709551616:=λp hp m hm w=>by have:=(hp.exps hm w).2;omega
 unfold Bf at h;split at h
 ·cases h
 ·rename_i m hm;have n:∀d:MP,d∣a->d∣b->d.deg v<=m:=λd i j=>vH hv y b0 (hex a wa) (hex b wb) i j hm;split at h
  ·rename_i B;simp only[sJ]at h;refine⟨1,by rw[<-h,pO],unit_dvd unit_one a,unit_dvd unit_one b,λd i j=>u d (by have:=n d i j;show d.deg v<=0;omega) i⟩
  ·split at h
   ·cases h
   ·rename_i o C;split at h
    ·rename_i hc;simp only[sJ]at h;rw[Bool.and_eq_true]at hc
     cases o with
     | none=>cases hc.1
     | some k =>
      obtain⟨t,l,q⟩:=je b0;have e:=C;unfold zU at e;rw[q]at e;simp only at e;obtain⟨i,j⟩:=Af (q▸b.v) rfl a.v dX.nil e
      have hd:b∣a:=by refine⟨⟨canon k,fB _⟩,MP.ext' λx=>?_⟩;have:=j x;rw[jv,<-q]at this;rw[MP.ev_mul];show ev x a.l=ev x b.l*ev x (canon k);rw[nX i];grind
      exact⟨b,h.symm,hd,dvd_refl b,λd _ h=>h⟩
    ·exact KA z hv _ a b r D lb u pb h
theorem Em{g a b:MP}(h:jw g a b):jw g b a:=⟨h.r,h.l,λd x y=>h.u d y x⟩
theorem Oy{G:List aj->List aj->Option (List aj)}(d:Ov G){v:Nat}(hv:v<4){a b:MP}{r:List aj}(wa:Wp a.l)(wb:Wp b.l)(i:a.lo (v+1))(lb:b.lo (v+1))(j:a.prim v)(pb:b.prim v)(h:EX G a.l b.l v=some r):∃s:MP,r=s.l/\jw s a b:=by
 unfold EX at h;split at h
 ·obtain⟨s,e,k⟩:=Ox d hv wb wa lb i pb j h;exact⟨s,e,Em k⟩
 ·exact Ox d hv wa wb i lb j pb h
theorem KC(a b:MP):∀(n:Nat),n<=4->(∀w,n<=w->w<4->a.fr w/\b.fr w)->∀v,ut [a.l,b.l] n=some v->v<4/\a.lo (v+1)/\b.lo (v+1)
 | 0,_,_,v,h=>by cases h
 | n+1,hn,hf,v,h=>by
  rw[ut]at h;split at h
  ·simp only[sJ]at h;subst h;exact⟨by omega,λw d i=>(hf w d i).1,λw d i=>(hf w d i).2⟩
  ·rename_i hc;refine KC a b n (by omega) (λw d i=>?_) v h;rcases Nat.eq_or_lt_of_le d with e|hlt
   ·subst e;simp only[List.any_cons,List.any_nil,Bool.or_false,Bool.or_eq_true,decide_eq_true_eq,not_or]at hc;exact⟨by show aD a.l n<=0;omega,by show aD b.l n<=0;omega⟩
   ·exact hf w hlt i
theorem KD{a b r:List aj}(h:gT a b=some r):Wp r:=by
 unfold gT at h;split at h
 ·have:=kG h;rw[this.1];exact this.2
 ·cases h
theorem mD{α b:Type}{o:Option α}{f:α->Option b}{y:b}(h:dY o f=some y):∃x,o=some x/\f x=some y:=by
 cases o with
 | none=>cases h
 | some x=>exact⟨x,rfl,h⟩
theorem Vg{G:List aj->List aj->Option (List aj)}(C:Ov G):Ov (SX G):=λa b r h=>by
 unfold SX at h;split at h
 ·rename_i ha;have ha:=zero_iff.2 ha;refine⟨nrm b,yV h,?_,λo=>jY λh0=>o (by rw[h0,jV])⟩;by_cases hb:b=0
  ·rw[hb,jV,ha];exact⟨dvd_refl _,dvd_refl _,λd h _=>h⟩
  ·exact⟨by rw[ha];exact dvd_zero _,(eu hb).1,λd _ h=>dvd_trans h (eu hb).2⟩
 ·rename_i ha;have m:a≠0:=λh=>ha (zero_iff.1 h);split at h
  ·rename_i hb;have hb:=zero_iff.2 hb;exact⟨nrm a,yV h,⟨(eu m).1,by rw[hb];exact dvd_zero _,λd h _=>dvd_trans h (eu m).2⟩,λ_=>jY m⟩
  ·rename_i hb;have b0:b≠0:=λh=>hb (zero_iff.1 h);split at h
   ·rename_i hc;simp only[sJ]at h;exact⟨1,by rw[<-h,pO],xD (hc.imp vI vI),λ_=>qI⟩
   ·obtain⟨v,hv,h⟩:=mD h;obtain⟨M,Y,lb⟩:=KC a b 4 oM (λw j B=>oM) v hv;have N:=oI v oM;split at h
    ·rename_i hd;obtain⟨c,hc,h⟩:=mD h;obtain⟨k,rfl,K,_⟩:=qJ C hc;obtain⟨g,e,hg⟩:=C k b r h;have R:b.fr v:=Int.le_of_eq hd;exact⟨g,e,⟨dvd_trans hg.i.l K.d,hg.i.r,λd j B=>hg.i.u d (K.u d (sI b0 B R) j) B⟩,hg.n⟩
    ·split at h
     ·rename_i hd;obtain⟨c,hc,h⟩:=mD h;obtain⟨k,rfl,K,_⟩:=qJ C hc;obtain⟨g,e,hg⟩:=C a k r h;have O:a.fr v:=Int.le_of_eq hd;exact⟨g,e,⟨hg.i.l,dvd_trans hg.i.r K.d,λd j B=>hg.i.u d j (K.u d (sI m j O) B)⟩,hg.n⟩
     ·obtain⟨x0,hx,h⟩:=mD h;obtain⟨y0,hy,h⟩:=mD h;obtain⟨g0,S,h⟩:=mD h;obtain⟨p0,hp,h⟩:=mD h;obtain⟨q0,hq,h⟩:=mD h;obtain⟨s0,hs,h⟩:=mD h;obtain⟨m0,hm,h⟩:=mD h;obtain⟨x,rfl,W,_⟩:=qJ C hx;obtain⟨y,rfl,X,_⟩:=qJ C hy;obtain⟨g,rfl,hg⟩:=C x y _ S;obtain⟨p,I,pp,F⟩:=jA W m;obtain⟨q,eq,pq,H⟩:=jA X b0;have Z:=KD hp;have a1:=KD hq;have e1:=Ei (q:=p) F (I.trans (jC x p)) hp;have e2:=Ei (q:=q) H (eq.trans (jC y q)) hq;subst e1;subst e2;have lp:=qK F (bZ pp) I Y;have lq:=qK H (bZ pq) eq lb;obtain⟨s,rfl,E⟩:=Oy C M Z a1 lp lq pp pq hs;have hm:m0=(g*s).l:=(kG hm).1;subst hm;have lx:x.lo v:=qh (gV m (by rw[I];exact dvd_mul_right _ _) Y) W.f;have ly:y.lo v:=qh (gV b0 (by rw[eq];exact dvd_mul_right _ _) lb) X.f
      have D:jw (g*s) a b:=by
       refine⟨by rw[I];exact mul_dvd hg.i.l E.l,by rw[eq];exact mul_dvd hg.i.r E.r,λd j B=>?_⟩;have d0:=dvd_ne m j;obtain⟨e,z,rfl,he,a2,L,lz,_⟩:=kN N M (gV m j Y) d0;have J:e.fr v:=he v (nL _) M;refine mul_dvd (hg.i.u e ?_ ?_) (E.u z ?_ ?_)
       ·exact W.u e J (dvd_trans (dvd_mul_right _ _) j)
       ·exact X.u e J (dvd_trans (dvd_mul_right _ _) B)
       ·exact fA N M lp L lx F (by rw[<-I];exact dvd_trans (dvd_mul_left _ _) j)
       ·exact fA N M lq L ly H (by rw[<-eq];exact dvd_trans (dvd_mul_left _ _) B)
      have o:=jW D m;exact⟨nrm (g*s),yV h,qd D o,λ_=>jY o⟩
theorem NG.eq{g h a b:MP}(hg:NG g a b)(d:NG h a b):g=h:=by
 by_cases h0:g=0
 ·have:=d.i.u g hg.i.l hg.i.r;rw[h0]at this ⊢;exact(zero_dvd this).symm
 ·have k:=d.i.u g hg.i.l hg.i.r;have j:=hg.i.u h d.i.l d.i.r;have m:h≠0:=λe=>h0 (by rw[e]at j;exact zero_dvd j);exact Ej h0 k j (hg.n h0) (d.n m)
end Q
end
section
namespace Q
open MP
theorem yX{a:MP}{t:aj}{l:List aj}(h:a.l=t::l):hd a=t.2:=by unfold hd;rw[h]
theorem xE{a b:MP}(ha:a≠0)(hb:b≠0):hd (a*b)=hd a*hd b:=by
 obtain⟨s,l,d⟩:=je ha;obtain⟨t,r,h⟩:=je hb;have i:bQ (s::l):=d▸a.v;have j:bQ (t::r):=h▸b.v;obtain⟨k,n⟩:=BM i j;have hz:=jm (i.2 s sM).1 (j.2 t sM).1;obtain⟨m,hm⟩:=BL (bQ.mul _ _) hz k n;have e:(a*b).l=aZ (s::l) (t::r):=by show aZ a.l b.l=_;rw[d,h]
 rw[yX (e.trans hm),yX d,yX h]
def NC (v:Nat) (g a:MP):Prop:=uG v g a/\(g≠0->hd g=1)
end Q
end
section
namespace Q
open MP Go.Proofs.YtopclbeomcggiaaGreat
structure uh (D H:Nat) (p:MP):Prop where
 d:p.dv D
 a:(D:Rat)*p.am<=(H:Rat)
def In (b:Nat) (p:MP):Prop:=∃D H,0<D/\D<=2^b/\H<=2^b/\uh D H p
theorem bU(n:Nat):(0:Rat)<=(n:Rat):=Rat.natCast_nonneg
theorem Gp{m n:Nat}(h:m<=n):(m:Rat)<=(n:Rat):=Rat.natCast_le_natCast.2 h
theorem uh.mono{D H b:Nat}{p:MP}(h:uh D H p)(e:H<=b):uh D b p:=⟨h.d,Rat.le_trans h.a (Gp e)⟩
theorem uh.mul{D H b e:Nat}{p q:MP}(h:uh D H p)(i:uh b e q):uh (D*b) (H*e) (p*q):=by refine⟨Sj h.d i.d,?_⟩;have j:=Rat.mul_le_mul_of_nonneg_left (DC p q) (bU (D*b));have k:=sD h.a i.a (Rat.mul_nonneg (bU D) p.am_nonneg) (bU e);rw[Rat.natCast_mul]at j ⊢;rw[Rat.natCast_mul];grind
theorem uh.sub{D H b:Nat}{p q:MP}(h:uh D H p)(e:uh D b q):uh D (H+b) (p-q):=by refine⟨Dz h.d e.d,?_⟩;have i:=Rat.mul_le_mul_of_nonneg_left (Mr p q) (bU D);have j:=h.a;have k:=e.a;rw[Rat.natCast_add];grind
theorem uh.up{D H:Nat}{p:MP}(h:uh D H p)(K:Nat):uh (D*K) (H*K) p:=by refine⟨UN (Nat.dvd_mul_right _ _) h.d,?_⟩;have:=Rat.mul_le_mul_of_nonneg_right h.a (bU K);rw[Rat.natCast_mul,Rat.natCast_mul];grind
theorem YG(v n:Nat)(p:MP):(p.co v n).am<=p.am:=by
 have e:bF (aR p.l v n)=bF (p.l.filter λt=>t.1.get v=(n:Int)):=by
  unfold aR;generalize p.l.filter _=l
  induction l with
  | nil=>rfl
  | cons u l b=>simp only[List.map_cons,bF,b]
 show bF (aR p.l v n)<=bF p.l;rw[e]
 have d:∀l:List aj,bF (l.filter λt=>t.1.get v=(n:Int))<=bF l:=λl=>by
  induction l with
  | nil=>exact Rat.le_refl
  | cons t l b =>
   have:=fV t.2;rw[List.filter_cons];split<;>simp only[bF]<;>grind
 exact d p.l
theorem uh.co{D H:Nat}{p:MP}(h:uh D H p)(v n:Nat):uh D H (p.co v n) :=
 ⟨VW h.d v n,Rat.le_trans (Rat.mul_le_mul_of_nonneg_left (YG v n p) (bU D)) h.a⟩
theorem yY{l r:List aj}(h:r.Sublist l):bF r<=bF l:=by
 induction h with
 | slnil=>exact Rat.le_refl
 | cons t _ b=>have:=fV t.2;simp only[bF];grind
 | cons_cons t _ b=>simp only[bF];grind
theorem uh.part{D H:Nat}{p q:MP}(h:uh D H p)(b:q.l.Sublist p.l):uh D H q :=
 ⟨λt e=>h.d t (b.subset e),Rat.le_trans (Rat.mul_le_mul_of_nonneg_left (yY b) (bU D)) h.a⟩
theorem uh.zero(D H:Nat):uh D H 0:=⟨Ib D,by rw[NZ,Rat.mul_zero];exact bU H⟩
namespace In
variable {b c:Nat} {p q:MP}
theorem mono(h:In b p)(hb:b<=c):In c p:=by obtain⟨D,H,d,i,j,e⟩:=h;have:=Nat.pow_le_pow_right (oM:0<2) hb;exact⟨D,H,d,oM,oM,e⟩
theorem mul(h:In b p)(i:In c q):In (b+c) (p*q):=by
 obtain⟨D,H,j,k,l,m⟩:=h;obtain⟨d,e,n,k2,o,r⟩:=i;refine⟨D*d,H*e,Nat.mul_pos j n,?_,?_,m.mul r⟩
 ·rw[Nat.pow_add];exact Nat.mul_le_mul k k2
 ·rw[Nat.pow_add];exact Nat.mul_le_mul l o
theorem co(h:In b p)(v n:Nat):In b (p.co v n):=by obtain⟨D,H,d,e,i,j⟩:=h;exact⟨D,H,d,e,i,j.co v n⟩
theorem part(h:In b p)(k:q.l.Sublist p.l):In b q:=by obtain⟨D,H,d,e,i,j⟩:=h;exact⟨D,H,d,e,i,j.part k⟩
theorem zero(b:Nat):In b 0:=⟨1,1,oM,Nat.one_le_two_pow,Nat.one_le_two_pow,uh.zero 1 1⟩
theorem one(b:Nat):In b 1:=⟨1,1,oM,Nat.one_le_two_pow,Nat.one_le_two_pow,WO 1,by rw[WP,Rat.mul_one];exact Rat.le_refl⟩
end In
theorem IE{p:MP}(h:p≠0):∃t∈p.l,hd p=t.2:=by obtain⟨t,l,e⟩:=je h;exact⟨t,by rw[e];simp,yX e⟩
theorem Ty{p:MP}(h:p≠0):bJ (hd p)<=p.am:=by obtain⟨t,b,e⟩:=IE h;rw[e];exact uC b
theorem uh.hd{D H:Nat}{p:MP}(h:uh D H p)(h0:p≠0):uh D H (c (Q.hd p)):=by obtain⟨t,b,e⟩:=IE h0;refine⟨Sk (by rw[e];exact h.d t b),?_⟩;rw[Mq];exact Rat.le_trans (Rat.mul_le_mul_of_nonneg_left (Ty h0) (bU D)) h.a
theorem In.hd{b:Nat}{p:MP}(h:In b p)(h0:p≠0):In b (c (Q.hd p)):=by obtain⟨D,H,d,e,i,j⟩:=h;exact⟨D,H,d,e,i,j.hd h0⟩
theorem IG{p:MP}(h:p≠0):hd p*(1/hd p)=1:=by have:=Rat.div_mul_cancel (a:=1) (yU h);grind
theorem uh.nrm{D H:Nat}{p:MP}(h:uh D H p)(u:0<D)(h0:p≠0):∃z:Nat,0<z/\(z:Rat)=(D:Rat)*bJ (Q.hd p)/\z<=H/\uh z H (Q.nrm p):=by
 obtain⟨z,hz⟩:∃z:Int,Q.hd p*(D:Rat)=(z:Rat):=by obtain⟨t,l,e⟩:=IE h0;rw[e];exact h.d t l
 have i:(D:Rat)≠0:=jQ u;have x:=yU h0;have j:=IG h0
 have C:z≠0:=λe=>by rw[e]at hz;exact jm x i hz
 have b:((z.natAbs:Nat):Rat)=bJ (z:Rat):=(Q.rabs_int z).symm;have n:bJ (z:Rat)=(D:Rat)*bJ (Q.hd p):=by rw[<-hz,jS,bT (bU D)];grind
 have m:z.natAbs<=H:=by
  have e1:=Rat.mul_le_mul_of_nonneg_left (Ty h0) (bU D);have q:((z.natAbs:Nat):Rat)<=(H:Rat):=by rw[b,n];exact Rat.le_trans e1 h.a
  exact Rat.natCast_le_natCast.1 q
 refine⟨z.natAbs,oM,by rw[b,n],m,?_,?_⟩
 ·intro t l;obtain⟨s,B,rfl⟩:=DD l;obtain⟨k,y⟩:=h.d s B;have o:s.2*(1/Q.hd p)*(z:Rat)=(k:Rat):=by rw[<-hz,<-y];grind
  rcases Int.natAbs_eq z with e|e
  ·refine⟨k,?_⟩;show s.2*(1/Q.hd p)*((z.natAbs:Nat):Rat)=k;rw[<-iN,<-e];exact o
  ·refine⟨-k,?_⟩;show s.2*(1/Q.hd p)*((z.natAbs:Nat):Rat)=_;rw[<-iN,(oM:((z.natAbs:Nat):Int)=-z),Rat.intCast_neg,Rat.intCast_neg,<-o];grind
 ·show _*(c (1/Q.hd p)*p).am<=_;rw[tT,b,<-hz,jS,bT (bU D)];have r:bJ (Q.hd p)*bJ (1/Q.hd p)=1:=by rw[<-jS,j];exact rT
  have:bJ (Q.hd p)*(D:Rat)*(bJ (1/Q.hd p)*p.am)=(bJ (Q.hd p)*bJ (1/Q.hd p))*((D:Rat)*p.am):=gR;rw[this,r,Rat.one_mul];exact h.a
theorem In.nrm{b:Nat}{p:MP}(h:In b p):In b (Q.nrm p):=by
 by_cases h0:p=0
 ·rw[h0,jV];exact In.zero b
 obtain⟨D,H,d,l,e,i⟩:=h;obtain⟨z,j,-,m,k⟩:=i.nrm d h0;exact⟨z,H,j,oM,e,k⟩
theorem En{r:Rat}(d:r≠0)(f:MP):nrm (c r*f)=nrm f:=by
 by_cases h:f=0
 ·have e:c r*f=0:=by rw[h];grind
  rw[e,h]
 have b:=yU h;have j:hd f*r≠0:=jm b d;rw[nrm,nrm,wD d]
 have e:(1:Rat)/(hd f*r)*r=1/hd f:=by
  have e1:=Rat.div_mul_cancel (a:=1) j;have k:=Rat.div_mul_cancel (a:=1) b;have l:(1:Rat)/(hd f*r)*r*hd f=1/hd f*hd f:=gR;have i:((1:Rat)/(hd f*r)*r - 1/hd f)*hd f=0:=gR;rcases Rat.mul_eq_zero.1 i with h|h
  ·grind
  ·exact absurd h b
 rw[<-e,<-mR];grind
def Dg (d:Nat->Nat) (p:MP):Prop:=∀w,w<4->p.deg w<=d w
theorem Dg.mono{d e:Nat->Nat}{p:MP}(h:Dg d p)(hd:∀w,d w<=e w):Dg e p:=λw b=>by have:=h w b;have:=hd w;omega
theorem Dg.dvd{d:Nat->Nat}{p q:MP}(h:Dg d p)(h0:p≠0)(hq:q∣p):Dg d q:=λw b=>Int.le_trans (dvd_deg h0 hq w) (h w b)
theorem vJ{r:Rat}(b:r≠0){p:MP}(h:p≠0)(w:Nat):(c r*p).deg w=p.deg w:=by rw[deg_mul (zR b) h];have d:=deg_pos (zR b) w;have e:(c r).deg w<=0:=ow r w;omega
theorem Eo{r:Rat}(b:r≠0)(p:MP):c r*p∣p/\p∣c r*p:=by
 refine⟨⟨c r⁻¹,?_⟩,⟨c r,gR⟩⟩;have h:c r*c r⁻¹=1:=by rw[mR,Rat.mul_inv_cancel _ b];rfl
 grind
theorem In.fac{b k n:Nat}{a f:MP}{d:Nat->Nat}(C:n<=4)(h:In b a)(h0:a≠0)(hf:f∣a)(B:a.lo n)(hd:Dg d a)(z:qN d n<=2^k):In (b+k) (Q.nrm f):=by
 obtain⟨D,H,s,G,u,o⟩:=h;obtain⟨g,m⟩:=hf;have f0:f≠0:=λe=>h0 (by rw[m,e];grind);obtain⟨r,q,hp⟩:=VO f0;have i:(D:Rat)≠0:=jQ s
 have e:c (D:Rat)*a=(c r*f)*(c ((D:Rat)*r⁻¹)*g):=by
  have x:c r*c ((D:Rat)*r⁻¹)=c (D:Rat):=by rw[mR];congr 1;have:=Rat.mul_inv_cancel _ q;grind
  rw[m,<-x];grind
 have F:(c (D:Rat)*a).dv 1:=rU o.d;have E:=Sr F hp e;have l:c (D:Rat)*a≠0:=mul_ne (zR i) h0;have j:=MP.fac d n C _ _ _ e l hp.1 E (gV h0 (Eo i a).1 B) λw I=>by rw[vJ i h0];exact hd w oM
 rw[tT (D:Rat) a,bT (bU D)]at j
 have y:In (b+k) (c r*f):=by
  refine⟨1,2^(b+k),oM,Nat.one_le_two_pow,nL _,hp.1,?_⟩;have e1:((1:Nat):Rat)=1:=rfl;rw[e1,Rat.one_mul]
  have p:(qN d n:Rat)*((D:Rat)*a.am)<=((2^k:Nat):Rat)*((2^b:Nat):Rat) :=
   sD (Gp z) (Rat.le_trans o.a (Gp u)) (bU _) (bU _)
  rw[<-Rat.natCast_mul,<-Nat.pow_add,Nat.add_comm]at p;exact Rat.le_trans j p
 have:=y.nrm;rwa[En q]at this
theorem si{p:MP}(h:p≠0):p=c (hd p)*nrm p:=by
 have b:c (hd p)*c (1/hd p)=1:=by rw[mR,IG h];rfl
 rw[nrm];grind
theorem In.quot{b k n:Nat}{a q z:MP}{d:Nat->Nat}(p:n<=4)(h:In b a)(h0:a≠0)(e:a=q*z)(hz:Q.hd z=1)(o:a.lo n)(hd:Dg d a)(m:qN d n<=2^k):In (b+(b+k)) q:=by
 have i:q≠0:=λh=>h0 (by rw[e,h];grind);have r:z≠0:=λh=>h0 (by rw[e,h];grind);have e1:Q.hd a=Q.hd q:=by rw[e,xE i r,hz,Rat.mul_one]
 have j:=h.fac p h0 ⟨z,e⟩ o hd m;have l:=(h.hd h0).mul j;rwa[e1,<-si i]at l
end Q
end
section
namespace Q
open MP Go.Proofs.YtopclbeomcggiaaGreat
theorem Ep:∀(N:Nat)(L:List Nat),L.Nodup->(∀x∈L,x<N)->L.length<=N
 | 0,L,_,h=>by
  cases L with
  | nil=>simp
  | cons x L=>have:=h x sM;omega
 | N+1,L,hn,h=>by
  by_cases i:N∈L
  ·have j:=Ep N (L.erase N) (hn.erase N) λx b=>by
    have d:=(hn.mem_erase_iff).1 b;have:=h x d.2;have:=d.1;omega
   rw[List.length_erase_of_mem i]at j;omega
  ·have:=Ep N L hn λx b=>by
    have:=h x b;have:x≠N:=λe=>i (e▸b);omega
   omega
def bx (d:Nat->Nat):Nat:=(d 0+1)*(d 1+1)*(d 2+1)*(d 3+1)
def M4 (d:Nat->Nat) (e:Ex):Prop:=e.nat=true/\∀w,w<4->e.get w<=d w
def Oz (d:Nat->Nat) (e:Ex):Nat:=((e.1.toNat * (d 1+1)+e.2.1.toNat)*(d 2+1)+e.2.2.1.toNat)*(d 3+1)+e.2.2.2.toNat
theorem II{a b A B:Nat}(ha:a<A)(hb:b<B):a*B+b<A*B:=by have:=Nat.mul_le_mul_right B (oM:a+1<=A);rw[Nat.add_mul]at this;omega
theorem Er{a b a' b' B:Nat}(hb:b<B)(d:b' < B)(h:a*B+b=a'*B+b'):a=a'/\b=b':=by
 have e:(a*B+b)/B=a:=by rw[Nat.mul_comm,Nat.mul_add_div oM,Nat.div_eq_of_lt hb,Nat.add_zero]
 have i:(a'*B+b')/B=a':=by rw[Nat.mul_comm,Nat.mul_add_div oM,Nat.div_eq_of_lt d,Nat.add_zero]
 have j:a=a':=by rw[<-e,<-i,h]
 subst j;omega
theorem M4.parts{d:Nat->Nat}{e:Ex}(h:M4 d e):e.1.toNat<d 0+1/\e.2.1.toNat<d 1+1/\e.2.2.1.toNat<d 2+1/\e.2.2.2.toNat<d 3+1/\0<=e.1/\0<=e.2.1/\0<=e.2.2.1/\0<=e.2.2.2:=by have h0:=Ex.nat_iff.1 h.1;have b:=h.2 0 oM;have i:=h.2 1 oM;have j:=h.2 2 oM;have k:=h.2 3 oM;simp only[Ex.get]at b i j k;omega
theorem Vh{d:Nat->Nat}{e:Ex}(h:M4 d e):Oz d e<bx d:=by obtain⟨h0,b,i,j,_⟩:=h.parts;exact II (II (II h0 b) i) j
theorem Vi{d:Nat->Nat}{e f:Ex}(h:M4 d e)(i:M4 d f)(hc:Oz d e=Oz d f):e=f:=by obtain⟨h0,j,k,l,x,n1,n2,y⟩:=h.parts;obtain⟨k0,m,k2,n,r,m1,s,u⟩:=i.parts;obtain⟨c1,c2⟩:=Er l n hc;obtain⟨b,o⟩:=Er k k2 c1;obtain⟨p,q⟩:=Er j m b;exact Ex.ext' oM oM oM oM
theorem IJ{d:Nat->Nat}{L:List Ex}(b:L.Nodup)(h:∀e∈L,M4 d e):L.length<=bx d:=by
 have i:(L.map (Oz d)).Nodup:=by
  induction L with
  | nil=>exact List.nodup_nil
  | cons e L k =>
   rw[List.nodup_cons]at b;rw[List.map_cons,List.nodup_cons];refine⟨λhm=>?_,k b.2 λf hf=>h f (by simp[hf])⟩;obtain⟨f,hf,hc⟩:=List.mem_map.1 hm;exact b.1 (Vi (h e sM) (h f (by simp[hf])) hc.symm▸hf)
 have:=Ep (bx d) _ i λx j=>by obtain⟨e,he,rfl⟩:=List.mem_map.1 j;exact Vh (h e he)
 rwa[List.length_map]at this
theorem Qh{l:List aj}(h:GK l):(l.map Prod.fst).Nodup:=by
 induction l with
 | nil=>exact List.nodup_nil
 | cons t l d =>
  have b:=List.pairwise_cons.1 h;rw[List.map_cons,List.nodup_cons];refine⟨λhm=>?_,d b.2⟩;obtain⟨u,hu,e⟩:=List.mem_map.1 hm;exact Ex.gt_ne (b.1 u hu) e.symm
theorem Dg.inB{d:Nat->Nat}{p:MP}(h:Dg d p):∀t∈p.l,M4 d t.1:=λt b=>⟨(p.v.2 t b).2,λw e=>Int.le_trans (dR b w) (h w e)⟩
theorem Dg.len{d:Nat->Nat}{p:MP}(h:Dg d p):p.l.length<=bx d:=by
 have:=IJ (Qh p.v.1) (d:=d) λe he=>by obtain⟨t,b,rfl⟩:=List.mem_map.1 he;exact h.inB t b
 rwa[List.length_map]at this
theorem OA{d:Nat->Nat}{p:MP}(h:∀t∈p.l,M4 d t.1):Dg d p:=λw i=>by
 rcases(gz (λt=>t.1.get w) p.l (-1)).2.2 with e|⟨t,b,e⟩
 ·show aD p.l w<=_;unfold aD;rw[e];omega
 ·show aD p.l w<=_;unfold aD;rw[<-e];exact(h t b).2 w i
theorem Z4{a b c e:Nat}(ha:0<a)(hb:0<b)(hc:0<c)(he:0<e):a<=a*b*c*e/\b<=a*b*c*e/\c<=a*b*c*e/\e<=a*b*c*e:=by
 have e1:a*b*c*e=a*(b*c*e):=by simp only[Nat.mul_assoc]
 have d:a*b*c*e=b*(a*c*e):=by simp only[Nat.mul_comm,Nat.mul_left_comm]
 have h:a*b*c*e=c*(a*b*e):=by simp only[Nat.mul_comm,Nat.mul_left_comm]
 have i:a*b*c*e=e*(a*b*c):=by simp only[Nat.mul_comm,Nat.mul_left_comm]
 refine⟨?_,?_,?_,?_⟩
 ·rw[e1];exact Nat.le_mul_of_pos_right _ (Nat.mul_pos (Nat.mul_pos hb hc) he)
 ·rw[d];exact Nat.le_mul_of_pos_right _ (Nat.mul_pos (Nat.mul_pos ha hc) he)
 ·rw[h];exact Nat.le_mul_of_pos_right _ (Nat.mul_pos (Nat.mul_pos ha hb) he)
 ·rw[i];exact Nat.le_mul_of_pos_right _ (Nat.mul_pos (Nat.mul_pos ha hb) hc)
theorem VX(d:Nat->Nat):d 0+1<=bx d/\d 1+1<=bx d/\d 2+1<=bx d/\d 3+1<=bx d:=Z4 oM oM oM oM
theorem M5{D:Nat}{x:Rat}(j:0<D)(h:Dv D x):x.den∣D/\bJ ((x.num:Int):Rat)<=(D:Rat)*bJ x:=by
 obtain⟨k,d⟩:=h;have l:(D:Rat)≠0:=jQ j
 have hc:x=Rat.divInt k D:=by rw[Rat.divInt_eq_div,iN,<-d];grind
 obtain⟨e1,b⟩:=sZ k D oM;rw[<-hc]at e1 b;refine⟨Int.natCast_dvd_natCast.1 ⟨(Int.gcd k D:Int),by rw[b];exact(Int.ediv_mul_cancel (Int.gcd_dvd_right _ _)).symm⟩,?_⟩;have e:x.num.natAbs<=k.natAbs:=by rw[e1];exact Int.natAbs_ediv_le_natAbs _ _
 have i:(D:Rat)*bJ x=bJ (k:Rat):=by rw[<-d,jS,bT (bU D)];grind
 rw[i,Q.rabs_int,Q.rabs_int];exact Gp e
theorem Vj{D:Nat}{x:Rat}(h:Dv D x):Dv D (bJ x):=by
 unfold bJ;split
 ·exact h.neg
 ·exact h
theorem OB{D:Nat}:∀{l:List aj},(∀t∈l,Dv D t.2)->Dv D (bF l)
 | [],_=>Dv.zero D
 | t::l,h=>(Vj (h t (by simp))).add (OB λu hu=>h u (by simp[hu]))
theorem KE{D:Nat}:∀{l:List aj},(∀t∈l,t.2.den∣D)->zT l∣D
 | [],_=>Nat.one_dvd D
 | t::l,h=>Nat.lcm_dvd (h t (by simp)) (KE λu hu=>h u (by simp[hu]))
theorem BR{n b:Nat}(h:n<=2^b):aF n<=b+1:=jU (Nat.lt_of_le_of_lt h (Nat.pow_lt_pow_right oM oM))
theorem Tz{d:Nat->Nat}{b D H:Nat}{l:List aj}(q:∀t∈l,M4 d t.1)(hd:bx d<=10000)(p:l.length<=10000)(i:0<D)(j:D<=2^b)(n:H<=2^b)(hv:∀t∈l,Dv D t.2)(ha:(D:Rat)*bF l<=(H:Rat))(hb:b<LB):VQ l=true:=by
 simp only[VQ,Bool.and_eq_true,decide_eq_true_eq,List.all_eq_true];have o:=VX d;refine⟨⟨⟨p,λt k=>?_⟩,?_⟩,?_⟩
 ·obtain⟨h0,e,h,m,r,n1,n2,s⟩:=(q t k).parts;exact⟨⟨⟨⟨⟨⟨⟨oM,oM⟩,oM⟩,oM⟩,oM⟩,oM⟩,oM⟩,oM⟩
 ·have e:zT l∣D:=KE λt k=>(M5 i (hv t k)).1;have h:=jf (Nat.le_trans (Nat.le_of_dvd i e) j);have m:=BR (nL (2^b));omega
 ·have e:=(M5 i (OB hv)).2;rw[bT (mM l),Q.rabs_int]at e;have h:SN l<=H:=Rat.natCast_le_natCast.1 (Rat.le_trans e ha);have m:=BR (Nat.le_trans h n);omega
theorem qL{d:Nat->Nat}{b:Nat}{p:MP}(h:Dg d p)(m:In b p)(hd:bx d<=10000)(hb:b<LB):DV p.l=true:=by obtain⟨D,H,i,j,k,e⟩:=m;rw[DV,Bool.and_eq_true];exact⟨Dk.2 p.v,Tz h.inB hd (Nat.le_trans h.len hd) i j k e.d e.a hb⟩
theorem Es{p:MP}(h:DV p.l=true):g1 p.l=some p.l:=by rw[g1,if_pos h]
theorem sj{d:Nat->Nat}{b:Nat}{p:MP}(h:Dg d p)(m:In b p)(hd:bx d<=10000)(hb:b<LB):mr p.l=some (nrm p).l:=by
 by_cases h0:p=0
 ·rw[h0,jV];rfl
 ·have k:=qL (h.dvd h0 (eu h0).1) m.nrm hd hb;obtain⟨t,l,e⟩:=je h0;have j:(nrm p).l=bS p.l (1/t.2):=by rw[nrm,yX e,tQ]
  have i:=Es k;rw[j]at i ⊢;rw[e]at i ⊢;exact i
theorem Et{g:aj}{ts:List aj}(hv:bQ (g::ts)):∀(s out:List aj)(n:Nat),bQ s->(∀x r,x::r <:+ s->DV (aZ (x::r) (g::ts))=true/\DV [x]=true)->s.length+1<=n->rW (g::ts) g n (aZ s (g::ts)) out=some (some (out++s))
 | [],out,n,_,_,hn=>by obtain⟨n,rfl⟩:∃m,n=m+1:=⟨n - 1,by simp at hn;omega⟩;rw[show aZ [] (g::ts)=[]from rfl,rW,List.append_nil]
 | x::s,out,n,hs,hw,hn=>by obtain⟨n,rfl⟩:∃m,n=m+1:=⟨n - 1,by simp at hn;omega⟩;have hz:=(hv.2 g sM).1;have e:=hs.2 x sM;obtain⟨h,i⟩:=BM hs hv;obtain⟨a,ha⟩:=BL (bQ.mul _ _) (jm e.1 hz) h i;obtain⟨w1,o⟩:=hw x s (List.suffix_refl _);have l:=Et hv s (out++[x]) n hs.tail (λy r k=>hw y r (k.trans (List.suffix_cons x s))) (by simp at hn;omega);have b:=Dx hs hv bQ.nil;rw[yG (bQ.mul _ _),yG (bQ.mul _ _)]at b;rw[ha]at w1 b ⊢;have d:=Dw (x:=x) hz;have j:((x.1.add g.1).sub g.1)=x.1:=congrArg Prod.fst d;rw[rW,if_pos w1,if_pos (by show((x.1.add g.1).sub g.1).nat=true;rw[j];exact e.2),d,if_pos o,b,l];simp
theorem oF{d:Nat->Nat}{b k:Nat}{a q z:MP}(u:z≠0)(e:a=q*z)(hd:Dg d a)(D:bx d<=10000)(hq:In b q)(hz:In k z)(hb:b+k<LB):gT a.l z.l=some q.l:=by
 obtain⟨g,ts,m⟩:=je u;by_cases s:q=0
 ·have ha:a=0:=by rw[e,s];grind
  rw[ha,s,gT,m];rfl
 have E:a≠0:=by rw[e];exact mul_ne s u
 have i:Dg d q:=hd.dvd E ⟨z,e⟩;have H:Dg d z:=hd.dvd E ⟨q,by rw[e];grind⟩;have j:∀w,q.deg w+z.deg w=a.deg w:=λw=>by rw[e,deg_mul s u]
 have key:=Et (m▸z.v) q.l [] fuel q.v (λx r o=>by
  have hv:bQ (x::r):=q.v.sublist o.sublist;have hp:In b (⟨x::r,hv⟩:MP):=hq.part o.sublist
  have y:∀w,(⟨x::r,hv⟩:MP).deg w<=q.deg w:=λw=>by
   rcases(gz (λt=>t.1.get w) (x::r) (-1)).2.2 with e|⟨t,I,e⟩
   ·show aD (x::r) w<=_;unfold aD;rw[e];exact deg_ge w q
   ·show aD (x::r) w<=_;unfold aD;rw[<-e];exact dR (o.sublist.subset I) w
  have B:(⟨x::r,hv⟩:MP)≠0:=λh=>by have:=zero_iff.1 h;cases this
  refine⟨?_,?_⟩
  ·have F:=qL (d:=d) (p:=(⟨x::r,hv⟩:MP)*z) (λw C=>by
    rw[deg_mul B u];have:=j w;have:=y w;have:=hd w C;omega) (hp.mul hz) D hb
   rw[<-m];exact F
  ·have n:bQ [x]:=hv.sublist (List.singleton_sublist.2 sM)
   exact qL (d:=d) (p:=(⟨[x],n⟩:MP)) (λw C=>by
    show aD [x] w<=_;have F:=dR (o.sublist.subset (sM:x∈x::r)) w;have J:=i w C;have K:q.deg w=aD q.l w:=rfl;show max (-1) (x.1.get w)<=_
    omega) (hp.part (q:=⟨[x],n⟩) (List.singleton_sublist.2 sM)) D oM)
  (by have:=i.len;unfold fuel;omega)
 have G:a.l=aZ q.l (g::ts):=by rw[e,<-m];rfl
 rw[gT,m,G];simp only[zU,key,List.nil_append,Option.getD_some];exact Es (qL i hq D oM)
end Q
end
