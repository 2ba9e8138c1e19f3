/- Short steps' ends: a tactic that closes a goal, as a term. -/
import Derived.IntWalk
set_option linter.unusedVariables false
set_option linter.unusedSimpArgs false
set_option maxHeartbeats 16000000
set_option maxRecDepth 100000
section
theorem oM{p:Prop}(h:p:=by omega):p:=h
theorem dM{p:Prop}(h:p:=by decide):p:=h
theorem dK{p:Prop}(h:p:=by decide +kernel):p:=h
theorem sM{p:Prop}(h:p:=by simp):p:=h
theorem gR{p:Prop}(h:p:=by grind):p:=h
theorem aM{p:Prop}(h:p:=by assumption):p:=h
theorem kM{p:Prop}(h:p:=by kernel_rfl):p:=h
theorem nM{p:Prop}(h:p:=by go_num):p:=h
theorem nL(n:Nat):n<=n:=Nat.le_refl n
theorem gE.{u}{α:Type u}{l:List α}{i:Nat}(h:i<l.length):l[i]?=some l[i]:=List.getElem?_eq_getElem h
theorem jD.{u}{α:Type u}{l:List α}{i:Nat}{a:α}:l.getD i a=l[i]?.getD a:=List.getD_eq_getElem?_getD
theorem gS.{u}{α:Type u}{i:Nat}{a:α}{l:List α}:l[i]?=some a↔∃h:i<l.length,l[i]=a:=List.getElem?_eq_some_iff
theorem tL.{u}{α:Type u}{i:Nat}{l:List α}(h:l.length<=i):l.take i=l:=List.take_of_length_le h
theorem sJ.{u}{α:Type u}(a b:α):(some a=some b)=(a=b):=Option.some.injEq a b
theorem iN(n:Nat):((n:Int):Rat)=(n:Rat):=Rat.intCast_natCast n
theorem mZ{a b c:Int}(h:a<=b)(d:0<=c):c*a<=c*b:=Int.mul_le_mul_of_nonneg_left h d
theorem nU(n:Nat):n*1=n:=Nat.mul_one n
theorem gN.{u}{α:Type u}{l:List α}{i:Nat}(h:l.length<=i):l[i]?=none:=List.getElem?_eq_none h
end
section
namespace Q
abbrev Ex:=Int × Int × Int × Int
def Ex.get (e:Ex) (v:Nat):Int:=match v with|0=>e.1|1=>e.2.1|2=>e.2.2.1|_=>e.2.2.2
def Ex.put (e:Ex) (v:Nat) (x:Int):Ex:=match v with|0=>(x,e.2.1,e.2.2.1,e.2.2.2)|1=>(e.1,x,e.2.2.1,e.2.2.2)|2=>(e.1,e.2.1,x,e.2.2.2)|_=>(e.1,e.2.1,e.2.2.1,x)
def Ex.add (e f:Ex):Ex:=(e.1+f.1,e.2.1+f.2.1,e.2.2.1+f.2.2.1,e.2.2.2+f.2.2.2)
def Ex.sub (e f:Ex):Ex:=(e.1-f.1,e.2.1-f.2.1,e.2.2.1-f.2.2.1,e.2.2.2-f.2.2.2)
def Ex.nat (e:Ex):Bool:=decide (0<=e.1/\0<=e.2.1/\0<=e.2.2.1/\0<=e.2.2.2)
def Ex.gt (e f:Ex):Bool:=decide (f.2.2.2<e.2.2.2\/f.2.2.2=e.2.2.2/\(f.2.2.1<e.2.2.1\/f.2.2.1=e.2.2.1/\(f.2.1<e.2.1\/f.2.1=e.2.1/\f.1<e.1)))
theorem Ex.nat_iff{e:Ex}:e.nat=true↔0<=e.1/\0<=e.2.1/\0<=e.2.2.1/\0<=e.2.2.2:=decide_eq_true_iff
theorem Ex.gt_iff{e f:Ex}:e.gt f=true↔(f.2.2.2<e.2.2.2\/f.2.2.2=e.2.2.2/\(f.2.2.1<e.2.2.1\/f.2.2.1=e.2.2.1/\(f.2.1<e.2.1\/f.2.1=e.2.1/\f.1<e.1))):=decide_eq_true_iff
theorem Ex.ext'{e f:Ex}(i:e.1=f.1)(j:e.2.1=f.2.1)(k:e.2.2.1=f.2.2.1)(l:e.2.2.2=f.2.2.2):e=f:=by obtain⟨a,b,c,d⟩:=e;obtain⟨a',h,c',d'⟩:=f;simp_all
theorem Ex.gt_irrefl(e:Ex):e.gt e=false:=by simp[Ex.gt]
theorem Ex.gt_trans{e f g:Ex}(b:e.gt f=true)(d:f.gt g=true):e.gt g=true:=by simp only[Ex.gt,decide_eq_true_eq]at *;omega
theorem Ex.gt_ne{e f:Ex}(h:e.gt f=true):e≠f:=by rintro rfl;rw[Ex.gt_irrefl]at h;cases h
theorem Ex.gt_asymm{e f:Ex}(h:e.gt f=true):f.gt e=false:=by
 cases hf:f.gt e
 ·rfl
 ·have:=Ex.gt_trans h hf;rw[Ex.gt_irrefl]at this;cases this
theorem Ex.gt_total{e f:Ex}(h:e.gt f=false)(i:e≠f):f.gt e=true:=by obtain⟨a,b,c,d⟩:=e;obtain⟨a',j,c',d'⟩:=f;simp only[Ex.gt,decide_eq_true_eq,decide_eq_false_iff_not]at *;simp only[ne_eq,Prod.mk.injEq]at i;omega
theorem Ex.add_comm(e f:Ex):e.add f=f.add e:=by simp only[Ex.add];refine Ex.ext' ?_ ?_ ?_ ?_<;>simp only<;>omega
theorem Ex.zero_add(e:Ex):Ex.add (0,0,0,0) e=e:=by simp[Ex.add]
theorem Ex.gt_add{e f:Ex}(g:Ex):(g.add e).gt (g.add f)=e.gt f:=by rw[Bool.eq_iff_iff,Ex.gt_iff,Ex.gt_iff];simp only[Ex.add];omega
theorem Ex.nat_add{e f:Ex}(h:e.nat=true)(b:f.nat=true):(e.add f).nat=true:=by rw[Ex.nat_iff]at *;simp only[Ex.add];omega
theorem Ex.nat_get{e:Ex}(h:e.nat=true)(v:Nat):0<=e.get v:=by simp only[Ex.nat,decide_eq_true_eq]at h;unfold Ex.get;split<;>omega
abbrev ai:=Ex × Rat
def FV (l:List ai):Prop:=l.Pairwise (λs t=>s.1.gt t.1=true)
def bR (l:List ai):Prop:=FV l/\∀t∈l,t.2≠0/\t.1.nat=true
def Lf (f:Ex->Rat):List ai->Rat
 | []=>0
 | t::l=>t.2*f t.1+Lf f l
def cf (l:List ai) (e:Ex):Rat:=Lf (λx=>if x=e then 1 else 0) l
def Ms (l r:List ai):Prop:=∀f,Lf f l=Lf f r
theorem Ms.refl(l:List ai):Ms l l:=λ_=>rfl
theorem Kl(f:Ex->Rat):Lf f []=0:=rfl
theorem rF(f:Ex->Rat)(t:ai)(l:List ai):Lf f (t::l)=t.2*f t.1+Lf f l:=rfl
theorem oU(f:Ex->Rat)(l r:List ai):Lf f (l++r)=Lf f l+Lf f r:=by
 induction l with
 | nil=>simp only[List.nil_append,Lf];grind
 | cons t l b=>simp only[List.cons_append,Lf,b];grind
theorem AC(f:Ex->Rat)(c:Rat)(l:List ai):Lf (λe=>c*f e) l=c*Lf f l:=by
 induction l with
 | nil=>simp[Lf]
 | cons t l b=>simp only[Lf,b];grind
theorem Mt(l:List ai):Lf (λ_=>0) l=0:=by
 induction l with
 | nil=>rfl
 | cons t l b=>simp only[Lf,b];grind
theorem jJ{f g:Ex->Rat}{l:List ai}(h:∀t∈l,f t.1=g t.1):Lf f l=Lf g l:=by
 induction l with
 | nil=>rfl
 | cons t l d=>simp only[Lf,h t sM,d (λs b=>h s (by simp[b]))]
theorem yC(f:Ex->Rat)(g:ai->ai)(k:Ex->Rat)(l:List ai)(h:∀t∈l,(g t).2*f (g t).1=t.2*k t.1):Lf f (l.map g)=Lf k l:=by
 induction l with
 | nil=>rfl
 | cons t l d=>simp only[List.map_cons,Lf,h t sM,d (λs b=>h s (by simp[b]))]
theorem Og(f:Ex->Rat)(e:Ex)(l:List ai):Lf f l=cf l e*f e+Lf f (l.filter (λt=>t.1 != e)):=by
 induction l with
 | nil=>simp only[Lf,cf,List.filter_nil];grind
 | cons t l b =>
  unfold cf at *;by_cases h:t.1=e
  ·subst h;simp[Lf,b];grind
  ·have d:(t.1 != e)=true:=bne_iff_ne.2 h;simp[Lf,h,b,d];grind
theorem Oh(e b:Ex)(l:List ai):cf (l.filter (λt=>t.1 != e)) b=if b=e then 0 else cf l b:=by
 induction l with
 | nil=>simp[cf,Lf]
 | cons t l d =>
  unfold cf at *;by_cases h:t.1=e
  ·subst h;simp only[List.filter_cons,bne_self_eq_false,Bool.false_eq_true,if_false,d,Lf];split
   ·rfl
   ·rename_i h;rw[if_neg (Ne.symm h)];grind
  ·have i:(t.1 != e)=true:=bne_iff_ne.2 h;simp only[List.filter_cons,i,if_true,Lf,d];split
   ·subst b;rw[if_neg h];grind
   ·grind
theorem Bf:∀(n:Nat)(l:List ai),l.length<=n->(∀e,cf l e=0)->∀f,Lf f l=0
 | _,[],_,_,_=>rfl
 | 0,_::_,h,_,_=>by simp at h
 | n+1,t::l,hl,h,f=>by
  rw[Og f t.1,h,Bf n _ ?_ ?_]
  ·grind
  ·have:((t::l).filter (λs=>s.1 != t.1)).length<=l.length:=by
    simp only[List.filter_cons,bne_self_eq_false,Bool.false_eq_true,if_false];exact List.length_filter_le _ _
   simp at hl;omega
  ·intro e;rw[Oh];split
   ·rfl
   ·exact h e
theorem oV(l r:List ai)(e:Ex):cf (l++r) e=cf l e+cf r e:=oU _ _ _
def FW (l:List ai):List ai:=l.map (λt=>(t.1,-t.2))
theorem FX(f:Ex->Rat)(l:List ai):Lf f (FW l)=- Lf f l:=by
 induction l with
 | nil=>simp[Lf,FW]
 | cons t l b=>simp only[FW,List.map_cons,Lf]at *;grind
theorem Oi{l r:List ai}(h:∀e,cf l e=cf r e):Ms l r:=λf=>by have:=Bf _ (l++FW r) (nL _) (λe=>by rw[oV];have:=h e;unfold cf at *;rw[FX];grind) f;rw[oU,FX]at this;grind
theorem Ms.cf{l r:List ai}(h:Ms l r)(e:Ex):cf l e=cf r e:=h _
theorem jv(e:Ex):cf [] e=0:=rfl
theorem bJ(t:ai)(l:List ai)(e:Ex):cf (t::l) e=(if t.1=e then t.2 else 0)+cf l e:=by simp only[cf,Lf];split<;>grind
theorem nZ{l:List ai}{e:Ex}(h:∀t∈l,t.1≠e):cf l e=0:=by
 induction l with
 | nil=>rfl
 | cons t l d=>rw[bJ,d (λs b=>h s (by simp[b])),if_neg (h t sM)];grind
theorem FV.tail{t:ai}{l:List ai}(h:FV (t::l)):FV l:=(List.pairwise_cons.1 h).2
theorem FV.head{t:ai}{l:List ai}(h:FV (t::l)):∀s∈l,t.1.gt s.1=true:=(List.pairwise_cons.1 h).1
theorem bR.nil:bR []:=⟨List.Pairwise.nil,λ_ h=>by cases h⟩
theorem bR.tail{t:ai}{l:List ai}(h:bR (t::l)):bR l:=⟨h.1.tail,λs b=>h.2 s (by simp[b])⟩
theorem bR.cf_head{t:ai}{l:List ai}(h:bR (t::l)):cf (t::l) t.1=t.2:=by rw[bJ,if_pos rfl,nZ (λs b=>(Ex.gt_ne (h.1.head s b)).symm)];grind
theorem bR.cf_top{t:ai}{l:List ai}(h:bR (t::l)){e:Ex}(he:e.gt t.1=true):cf (t::l) e=0:=by
 refine nZ λs b=>?_;rcases List.mem_cons.1 b with rfl|b
 ·exact(Ex.gt_ne he).symm
 ·exact(Ex.gt_ne (Ex.gt_trans he (h.1.head s b))).symm
theorem bR.inj:∀{l r:List ai},bR l->bR r->(∀e,cf l e=cf r e)->l=r
 | [],[],_,_,_=>rfl
 | [],t::r,_,hr,h=>absurd ((hr.cf_head).symm.trans (h t.1).symm) (hr.2 t (by simp)).1
 | t::l,[],hl,_,h=>absurd ((hl.cf_head).symm.trans (h t.1)) (hl.2 t (by simp)).1
 | t::l,s::r,hl,hr,h=>by
  have he:t.1=s.1:=by
   rcases hc:t.1.gt s.1 with _|_
   ·by_cases b:t.1=s.1
    ·exact b
    ·have d:=Ex.gt_total hc b;exact absurd (by rw[<-hr.cf_head,<-h];exact hl.cf_top d) (hr.2 s sM).1
   ·exact absurd (by rw[<-hl.cf_head,h];exact hr.cf_top hc) (hl.2 t sM).1
  have i:t.2=s.2:=by rw[<-hl.cf_head,<-hr.cf_head,h,he]
  have j:t=s:=Prod.ext he i;subst j;rw[bR.inj hl.tail hr.tail λe=>?_];have:=h e;rw[bJ,bJ]at this;grind
theorem bR.eqv_inj{l r:List ai}(b:bR l)(d:bR r)(h:Ms l r):l=r:=b.inj d h.cf
def ins:List ai->ai->List ai
 | [],m=>if m.2≠0/\m.1.nat=true then [m]else []
 | t::r,m=>if t.1.gt m.1 then t::ins r m else if t.1=m.1 then(if m.2+t.2≠0/\m.1.nat=true then(m.1,m.2+t.2)::r else r)else if m.2≠0/\m.1.nat=true then m::t::r else t::r
theorem Mv{l:List ai}{m s:ai}(h:s∈ins l m):s.1=m.1\/s∈l:=by
 induction l with
 | nil=>unfold ins at h;split at h<;>simp at h;exact .inl (by rw[h])
 | cons t r b =>
  unfold ins at h;split at h
  ·rcases List.mem_cons.1 h with rfl|h
   ·exact .inr sM
   ·exact(b h).imp id (λh=>by simp[h])
  ·split at h
   ·split at h
    ·rcases List.mem_cons.1 h with rfl|h
     ·exact .inl rfl
     ·exact .inr (by simp[h])
    ·exact .inr (by simp[h])
   ·split at h
    ·rcases List.mem_cons.1 h with rfl|h
     ·exact .inl rfl
     ·exact .inr h
    ·exact .inr h
theorem bR.ins{l:List ai}{m:ai}(h:bR l):bR (ins l m):=by
 induction l with
 | nil =>
  unfold Q.ins;split
  ·rename_i h;exact⟨List.pairwise_singleton _ _,λs b=>by simp at b;subst b;exact h⟩
  ·exact bR.nil
 | cons t r j =>
  unfold Q.ins;split
  ·rename_i hg;refine⟨List.pairwise_cons.2 ⟨λs b=>?_,(j h.tail).1⟩,λs b=>?_⟩
   ·rcases Mv b with e|b
    ·rw[e];exact hg
    ·exact h.1.head s b
   ·rcases List.mem_cons.1 b with rfl|b
    ·exact h.2 _ sM
    ·exact(j h.tail).2 s b
  ·rename_i hg;split
   ·rename_i he;split
    ·rename_i hc;refine⟨List.pairwise_cons.2 ⟨λs b=>?_,h.1.tail⟩,λs b=>?_⟩
     ·have:=h.1.head s b;rw[he]at this;exact this
     ·rcases List.mem_cons.1 b with rfl|b
      ·exact hc
      ·exact h.2 s (by simp[b])
    ·exact h.tail
   ·rename_i i;split
    ·rename_i hc;have d:=Ex.gt_total (by simpa using hg) i;refine⟨List.pairwise_cons.2 ⟨λs b=>?_,h.1⟩,λs b=>?_⟩
     ·rcases List.mem_cons.1 b with rfl|b
      ·exact d
      ·exact Ex.gt_trans d (h.1.head s b)
     ·rcases List.mem_cons.1 b with rfl|b
      ·exact hc
      ·exact h.2 s b
    ·exact h
theorem U9{l:List ai}{m:ai}(h:bR l)(e:Ex):cf (ins l m) e=cf l e+if m.1.nat=true/\m.1=e then m.2 else 0:=by
 induction l with
 | nil=>unfold ins;split<;>simp only[bJ,jv]<;>grind
 | cons t r b =>
  unfold ins;split
  ·rw[bJ,b h.tail,bJ];grind
  ·split
   ·rename_i he;have:=(h.2 t sM).2;split<;>simp only[bJ]<;>grind
   ·split<;>simp only[bJ]<;>grind
def canon (l:List ai):List ai:=l.foldl ins []
theorem Ez{l r:List ai}(h:bR r):bR (l.foldl ins r)/\∀e,cf (l.foldl ins r) e=cf r e+if e.nat=true then cf l e else 0:=by
 induction l generalizing r with
 | nil=>exact⟨h,λe=>by simp only[List.foldl_nil,jv];split<;>grind⟩
 | cons t l i =>
  obtain⟨b,d⟩:=i (h.ins (m:=t));refine⟨b,λe=>?_⟩;rw[List.foldl_cons,d,U9 h,bJ];grind
theorem fA(l:List ai):bR (canon l):=(Ez bR.nil).1
theorem nI(l:List ai)(e:Ex):cf (canon l) e=if e.nat=true then cf l e else 0:=by have:=(Ez (l:=l) bR.nil).2 e;rw[jv]at this;unfold canon;rw[this];grind
def dO (l:List ai):Prop:=∀t∈l,t.1.nat=true
theorem kN{l:List ai}(h:dO l):Ms (canon l) l:=Oi λe=>by
 rw[nI];split
 ·rfl
 ·rename_i b;exact(nZ λt d he=>b (by rw[<-he];exact h t d)).symm
theorem PR{l r:List ai}(h:dO l)(b:bR r)(he:Ms r l):canon l=r:=(fA l).inj b λe=>by rw[(kN h).cf,he.cf]
theorem bR.nat{l:List ai}(h:bR l):dO l:=λt b=>(h.2 t b).2
theorem Ht{l:List ai}(h:bR l):canon l=l:=PR h.nat h (Ms.refl _)
theorem zQ{l r:List ai}(h:∀e,e.nat=true->cf l e=cf r e):canon l=canon r:=(fA l).inj (fA r) λe=>by
 rw[nI,nI];split
 ·rename_i he;exact h e he
 ·rfl
theorem Ms.canon{l r:List ai}(h:Ms l r):canon l=canon r:=zQ λe _=>h.cf e
end Q
end
section
namespace Q
abbrev Pt:=Rat × Rat × Rat × Rat
def Pt.get (x:Pt) (v:Nat):Rat:=match v with|0=>x.1|1=>x.2.1|2=>x.2.2.1|_=>x.2.2.2
def Pt.put (x:Pt) (v:Nat) (c:Rat):Pt:=match v with|0=>(c,x.2.1,x.2.2.1,x.2.2.2)|1=>(x.1,c,x.2.2.1,x.2.2.2)|2=>(x.1,x.2.1,c,x.2.2.2)|_=>(x.1,x.2.1,x.2.2.1,c)
def wX (x:Pt) (e:Ex):Rat:=x.1^e.1.toNat * x.2.1^e.2.1.toNat * x.2.2.1^e.2.2.1.toNat * x.2.2.2^e.2.2.2.toNat
def ev (x:Pt) (l:List ai):Rat:=Lf (wX x) l
theorem jh(x:Pt):ev x []=0:=rfl
theorem kP(x:Pt)(t:ai)(l:List ai):ev x (t::l)=t.2*wX x t.1+ev x l:=rfl
theorem oW(x:Pt)(l r:List ai):ev x (l++r)=ev x l+ev x r:=oU _ _ _
theorem nJ{l:List ai}(h:dO l)(x:Pt):ev x (canon l)=ev x l:=(kN h) _
theorem pM(x:Rat)(m n:Nat):x^(m+n)=x^m*x^n:=by
 induction n with
 | zero=>simp[Rat.pow_zero]
 | succ n b=>rw[<-Nat.add_assoc,Rat.pow_succ,b,Rat.pow_succ];grind
theorem PS(x:Rat)(m n:Nat):x^(m*n)=(x^m)^n:=by
 induction n with
 | zero=>simp[Rat.pow_zero]
 | succ n b=>rw[Nat.mul_succ,pM,b,Rat.pow_succ]
theorem Mw(x:Pt){e f:Ex}(he:e.nat=true)(hf:f.nat=true):wX x (e.add f)=wX x e*wX x f:=by rw[Ex.nat_iff]at he hf;simp only[wX,Ex.add,Int.toNat_add,he,hf,pM];grind
def bH (c:Rat):Rat:=if c<0 then -c else c
def bI:List ai->Rat
 | []=>0
 | t::l=>bH t.2+bI l
theorem mf(l:List ai):0<=bI l:=by
 induction l with
 | nil=>exact Rat.le_refl
 | cons t l b=>simp only[bI,bH];split<;>grind
theorem yD{T:Rat}(l:1<=T){m n:Nat}(h:m<=n):0<=T^m/\T^m<=T^n:=by
 obtain⟨d,rfl⟩:=Nat.exists_eq_add_of_le h
 have b:∀k:Nat,1<=T^k:=by
  intro k
  induction k with
  | zero=>rw[Rat.pow_zero];exact Rat.le_refl
  | succ k i =>
   rw[Rat.pow_succ];have:1*T<=T^k*T:=Rat.mul_le_mul_of_nonneg_right i gR;grind
 have j:=b m;have e:=b d;refine⟨gR,?_⟩;rw[pM];have:T^m*1<=T^m*T^d:=Rat.mul_le_mul_of_nonneg_left e gR;grind
def MB (K:Nat) (e:Ex):Nat:=e.1.toNat+K*(e.2.1.toNat+K*(e.2.2.1.toNat+K*e.2.2.2.toNat))
def WF (K:Nat) (T:Rat):Pt:=(T,T^K,T^(K*K),T^(K*(K*K)))
theorem MC(K:Nat)(T:Rat)(e:Ex):wX (WF K T) e=T^MB K e:=by simp only[wX,WF,MB,Nat.mul_add,pM,<-PS,Nat.mul_assoc];grind
theorem PU{K:Nat}{e f:Ex}(he:e.nat=true)(hf:f.nat=true)(h:e.gt f=true)(b0:f.1<K)(b1:f.2.1<K)(n:f.2.2.1<K):MB K f<MB K e:=by
 rw[Ex.gt_iff]at h;rw[Ex.nat_iff]at he hf;obtain⟨a,b,c,d⟩:=e;obtain⟨a',m,c',d'⟩:=f;simp only[MB]at *
 have key:∀p q p' j:Nat,p' < K->j < q->p'+K*j < p+K*q:=by intro p q p' j l i;have:K*(j+1)<=K*q:=Nat.mul_le_mul_left K i;rw[Nat.mul_succ]at this;omega
 have key2:∀p q p' j:Nat,p' < p->j=q->p'+K*j < p+K*q:=by intro p q p' j l i;rw[i];omega
 rcases h with h|⟨h,i⟩
 ·exact key _ _ _ _ oM (key _ _ _ _ oM (key _ _ _ _ oM oM))
 ·rcases i with i|⟨i,k⟩
  ·exact key _ _ _ _ oM (key _ _ _ _ oM (key2 _ _ _ _ oM oM))
  ·rcases k with k|⟨k,o⟩
   ·exact key _ _ _ _ oM (key2 _ _ _ _ oM (by rw[h,i]))
   ·exact key2 _ _ _ _ oM (by rw[h,i,k])
theorem Bh{K:Nat}{T:Rat}(d:1<=T)(N:Nat):∀l:List ai,(∀t∈l,MB K t.1<=N)->- (bI l*T^N)<=ev (WF K T) l/\ev (WF K T) l<=bI l*T^N
 | [],_=>by simp only[jh,bI];constructor<;>grind
 | t::l,h=>by
  obtain⟨j,k⟩:=Bh d N l (λs i=>h s (by simp[i]));obtain⟨b,e⟩:=yD d (h t sM);rw[kP,MC];simp only[bI];have m:bH t.2*T^MB K t.1<=bH t.2*T^N:=Rat.mul_le_mul_of_nonneg_left e (by unfold bH;split<;>grind)
  have n:- (bH t.2*T^MB K t.1)<=t.2*T^MB K t.1/\t.2*T^MB K t.1<=bH t.2*T^MB K t.1:=by
   unfold bH;split
   ·have:0<=(-t.2)*T^MB K t.1:=Rat.mul_nonneg gR b;constructor<;>grind
   ·have:0<=t.2*T^MB K t.1:=Rat.mul_nonneg gR b;constructor<;>grind
  constructor<;>grind
theorem EA:∀l:List ai,∃K:Nat,∀t∈l,t.1.1<K/\t.1.2.1<K/\t.1.2.2.1<K
 | []=>⟨0,λ_ h=>by cases h⟩
 | t::l=>by
  obtain⟨K,h⟩:=EA l;refine⟨K+t.1.1.toNat+t.1.2.1.toNat+t.1.2.2.1.toNat+1,λs b=>?_⟩;rcases List.mem_cons.1 b with rfl|b
  ·omega
  ·have:=h s b;omega
theorem WG{t:ai}{l:List ai}(h:bR (t::l)):∃x,ev x (t::l)≠0:=by
 obtain⟨K,b⟩:=EA (t::l);have hc:=(h.2 t sM).1;have p:=mf l;have i:0<bH t.2:=by unfold bH;split<;>grind
 have e:0<=(bH t.2)⁻¹:=Rat.le_of_lt (Rat.inv_pos.2 i);obtain⟨T,q⟩:∃T,T=bI l*(bH t.2)⁻¹+1:=⟨_,rfl⟩;have m:1<=T:=by have:=Rat.mul_nonneg p e;grind
 have hb:bI l<bH t.2*T:=by
  have r:(bH t.2)⁻¹*bH t.2=1:=Rat.inv_mul_cancel _ gR;have n:bH t.2*T=bI l+bH t.2:=by rw[q];grind
  rw[n];grind
 refine⟨WF K T,λk=>?_⟩;rw[kP,MC]at k;obtain⟨N,o⟩:∃N,N=MB K t.1:=⟨_,rfl⟩;rw[<-o]at k
 cases N with
 | zero =>
  cases l with
  | nil=>rw[jh,Rat.pow_zero]at k;grind
  | cons s l =>
   have:=PU (h.2 t sM).2 (h.2 s sM).2 (h.1.head s sM) (b s sM).1 (b s sM).2.1 (b s sM).2.2;omega
 | succ N =>
  have u:=Bh (K:=K) m N l (λs j=>by
   have:=PU (h.2 t sM).2 (h.2 s (by simp[j])).2 (h.1.head s j) (b s (by simp[j])).1 (b s (by simp[j])).2.1 (b s (by simp[j])).2.2
   omega)
  have hp:0<T^N:=Rat.pow_pos gR;have d:bI l*T^N<bH t.2*T*T^N:=Rat.mul_lt_mul_of_pos_right hb hp;rw[Rat.pow_succ]at k;unfold bH at d;split at d<;>grind
theorem yE{l r:List ai}(e:bR l)(j:bR r)(h:∀x,ev x l=ev x r):l=r:=by
 have i:dO (l++FW r):=λt b=>by
  rcases List.mem_append.1 b with b|b
  ·exact e.nat t b
  ·simp only[FW,List.mem_map]at b;obtain⟨s,m,rfl⟩:=b;exact j.nat s m
 have hz:∀x,ev x (canon (l++FW r))=0:=λx=>by have:=h x;rw[nJ i,oW];unfold ev at *;rw[FX];grind
 have d:canon (l++FW r)=[]:=by
  cases hc:canon (l++FW r)with
  | nil=>rfl
  | cons t q =>
   obtain⟨x,k⟩:=WG (by rw[<-hc];exact fA _);rw[<-hc]at k;exact absurd (hz x) k
 refine e.eqv_inj j λf=>?_;have:=kN i f;rw[d,oU,FX,Kl]at this;grind
theorem Oj{l r:List ai}(b:dO l)(d:bR r)(h:∀x,ev x l=ev x r):canon l=r :=
 yE (fA _) d λx=>by rw[nJ b,h]
end Q
end
section
namespace Q
structure Sz where
 D:Nat
 B:Nat
 E:Nat
 N:Nat
def Dv (D:Nat) (c:Rat):Prop:=∃k:Int,c*(D:Rat)=(k:Rat)
structure Bd (s:Sz) (l:List ai):Prop where
 n:l.length<=s.N
 e:∀t∈l,-(s.E:Int)<=t.1.1/\t.1.1<=s.E/\-(s.E:Int)<=t.1.2.1/\t.1.2.1<=s.E/\-(s.E:Int)<=t.1.2.2.1/\t.1.2.2.1<=s.E/\-(s.E:Int)<=t.1.2.2.2/\t.1.2.2.2<=s.E
 d:∀t∈l,Dv s.D t.2
 b:bI l<=(s.B:Rat)
def Sz.add (s t:Sz):Sz:=⟨Nat.lcm s.D t.D,s.B+t.B,max s.E t.E,s.N+t.N⟩
def Sz.mul (s t:Sz):Sz:=⟨s.D*t.D,s.B*t.B,s.E+t.E,s.N*t.N⟩
def Sz.ok (s:Sz):Prop:=0<s.D/\s.D<65536/\s.B<2^1000/\s.E<1000000/\s.N<1000000
instance (s:Sz):Decidable s.ok:=by unfold Sz.ok;infer_instance
def Sz.le (s t:Sz):Prop:=s.D∣t.D/\s.B<=t.B/\s.E<=t.E/\s.N<=t.N
instance (s t:Sz):Decidable (s.le t):=by unfold Sz.le;infer_instance
theorem Dv.dvd{D b:Nat}{c:Rat}(h:Dv D c)(hd:D∣b):Dv b c:=by obtain⟨k,d⟩:=h;obtain⟨m,rfl⟩:=hd;exact⟨k*m,by rw[Rat.intCast_mul,iN,Rat.natCast_mul];grind⟩
theorem Dv.add{D:Nat}{c d:Rat}(h:Dv D c)(b:Dv D d):Dv D (c+d):=by obtain⟨k,e⟩:=h;obtain⟨m,hm⟩:=b;exact⟨k+m,by rw[Rat.intCast_add];grind⟩
theorem Dv.mul{D b:Nat}{c d:Rat}(h:Dv D c)(e:Dv b d):Dv (D*b) (c*d):=by obtain⟨k,i⟩:=h;obtain⟨m,hm⟩:=e;exact⟨k*m,by rw[Rat.intCast_mul,Rat.natCast_mul];grind⟩
theorem Dv.neg{D:Nat}{c:Rat}(h:Dv D c):Dv D (-c):=by obtain⟨k,b⟩:=h;exact⟨-k,by rw[Rat.intCast_neg];grind⟩
theorem Dv.zero(D:Nat):Dv D 0:=⟨0,sM⟩
theorem Dv.int(D:Nat)(k:Int):Dv D k:=⟨k*D,by rw[Rat.intCast_mul,iN]⟩
theorem fM(c:Rat):0<=bH c:=by unfold bH;split<;>grind
theorem Bi(c d:Rat):bH (c+d)<=bH c+bH d:=by unfold bH;split<;>split<;>split<;>grind
theorem Hu(c:Rat):bH (-c)=bH c:=by unfold bH;split<;>split<;>grind
theorem yF(c:Rat):c<0\/0<=c:=gR
theorem qB{c:Rat}(h:c<0):bH c=-c:=by unfold bH;rw[if_pos h]
theorem bO{c:Rat}(h:0<=c):bH c=c:=by unfold bH;rw[if_neg gR]
theorem jK(c d:Rat):bH (c*d)=bH c*bH d:=by
 rcases yF c with hc|hc<;>rcases yF d with hd|hd
 ·have:=Rat.mul_pos (gR:0 < -c) (gR:0 < -d);have e:-c*-d=c*d:=gR;rw[e]at this;rw[qB hc,qB hd,bO (Rat.le_of_lt this),e]
 ·have:=Rat.mul_nonneg (gR:0<=-c) hd;have e:-c*d=-(c*d):=gR;rw[e]at this;rw[qB hc,bO hd,e,<-Hu,bO this]
 ·have:=Rat.mul_nonneg hc (gR:0<=-d);have e:c*-d=-(c*d):=gR;rw[e]at this;rw[bO hc,qB hd,e,<-Hu,bO this]
 ·rw[bO hc,bO hd,bO (Rat.mul_nonneg hc hd)]
theorem tK(l r:List ai):bI (l++r)=bI l+bI r:=by
 induction l with
 | nil=>simp only[List.nil_append,bI];grind
 | cons t l b=>simp only[List.cons_append,bI,b];grind
theorem tN{l:List ai}{t:ai}(h:t∈l):bH t.2<=bI l:=by
 induction l with
 | nil=>cases h
 | cons s l b =>
  simp only[bI];rcases List.mem_cons.1 h with rfl|h
  ·have:=mf l;grind
  ·have:=b h;have:=fM s.2;grind
theorem FY{l:List ai}{g:ai->ai}{c:Rat}(h:∀t∈l,bH (g t).2<=bH t.2*c):bI (l.map g)<=bI l*c:=by
 induction l with
 | nil=>simp only[List.map_nil,bI];grind
 | cons t l d =>
  have:=h t sM;have:=d (λs b=>h s (by simp[b]));simp only[List.map_cons,bI];grind
theorem Bd.nil(s:Sz):Bd s []:=⟨Nat.zero_le _,(λt h=>absurd h sM),(λt h=>absurd h sM),by simp only[bI];exact Rat.natCast_nonneg⟩
theorem Bd.sub{s:Sz}{l r:List ai}(h:Bd s l)(i:r.Sublist l):Bd s r where
 n:=Nat.le_trans i.length_le h.n
 e:=λx j=>h.e x (i.subset j)
 d:=λx j=>h.d x (i.subset j)
 b:=by
  refine Rat.le_trans ?_ h.b;clear h
  induction i with
  | slnil=>exact Rat.le_refl
  | cons t _ k=>have:=fM t.2;simp only[bI];grind
  | cons_cons t _ k=>simp only[bI];grind
theorem Km(l:List ai)(m:ai):(ins l m).length<=l.length+1:=by
 induction l with
 | nil=>unfold ins;split<;>simp
 | cons t r b=>unfold ins;split<;>(try split)<;>(try split)<;>simp<;>omega
theorem Bj(l:List ai)(m:ai):bI (ins l m)<=bI l+bH m.2:=by
 have:=fM m.2
 induction l with
 | nil=>unfold ins;split<;>simp only[bI]<;>grind
 | cons t r b =>
  have:=Bi m.2 t.2;have:=fM t.2;unfold ins;split<;>(try split)<;>(try split)<;>simp only[bI]<;>grind
theorem Va{D:Nat}{l:List ai}{m:ai}(h:∀t∈l,Dv D t.2)(hm:Dv D m.2):∀t∈ins l m,Dv D t.2:=by
 induction l with
 | nil=>unfold ins;split<;>simp;exact hm
 | cons t r d =>
  unfold ins;split
  ·intro s b;rcases List.mem_cons.1 b with rfl|b
   ·exact h _ sM
   ·exact d (λs b=>h s (by simp[b])) s b
  ·split
   ·split
    ·intro s b;rcases List.mem_cons.1 b with rfl|b
     ·exact hm.add (h t sM)
     ·exact h s (by simp[b])
    ·intro s b;exact h s (by simp[b])
   ·split
    ·intro s b;rcases List.mem_cons.1 b with rfl|b
     ·exact hm
     ·exact h s b
    ·exact h
theorem PV{p:Ex->Prop}{l:List ai}{m:ai}(h:∀t∈l,p t.1)(hm:p m.1):∀t∈ins l m,p t.1:=λt b=>by
 rcases Mv b with e|b
 ·rw[e];exact hm
 ·exact h t b
theorem Bl{p:Ex->Prop}{D:Nat}:∀{l r:List ai},(∀t∈l,p t.1)->(∀t∈r,p t.1)->(∀t∈l,Dv D t.2)->(∀t∈r,Dv D t.2) ->
  (l.foldl ins r).length<=r.length+l.length/\bI (l.foldl ins r)<=bI r+bI l/\(∀t∈l.foldl ins r,p t.1)/\∀t∈l.foldl ins r,Dv D t.2
 | [],r,_,h2,_,h4=>⟨by simp,by simp only[List.foldl_nil,bI];grind,h2,h4⟩
 | m::l,r,h1,h2,h3,h4=>by
  have:=Bl (l:=l) (r:=ins r m) (λt b=>h1 t (by simp[b])) (PV h2 (h1 m sM)) (λt b=>h3 t (by simp[b])) (Va h4 (h3 m sM));have d:=Km r m;have e:=Bj r m;refine⟨?_,?_,this.2.2.1,this.2.2.2⟩
  ·simp only[List.foldl_cons,List.length_cons];omega
  ·have:=this.2.1;simp only[List.foldl_cons,bI];grind
theorem Bd.canon{s:Sz}{l:List ai}(h:Bd s l):Bd s (canon l):=by
 have:=Bl (l:=l) (r:=[]) (p:=λe=>-(s.E:Int)<=e.1/\e.1<=s.E/\-(s.E:Int)<=e.2.1/\e.2.1<=s.E/\-(s.E:Int)<=e.2.2.1/\e.2.2.1<=s.E/\-(s.E:Int)<=e.2.2.2/\e.2.2.2<=s.E) (D:=s.D)
  h.e (λ_ h=>by cases h) h.d (λ_ h=>by cases h)
 refine⟨Nat.le_trans (by simpa[Q.canon]using this.1) h.n,this.2.2.1,this.2.2.2,Rat.le_trans this.2.1 ?_⟩;have:=h.b;simp only[bI];grind
def mulT (s t:ai):ai:=(s.1.add t.1,s.2*t.2)
def prods (l r:List ai):List ai:=l.flatMap λs=>r.map (mulT s)
theorem yG(r:List ai):prods [] r=[]:=rfl
theorem jV(s:ai)(l r:List ai):prods (s::l) r=r.map (mulT s)++prods l r:=rfl
theorem dO.append{l r:List ai}(h:dO l)(d:dO r):dO (l++r):=λt b=>by
 rcases List.mem_append.1 b with b|b
 ·exact h t b
 ·exact d t b
theorem dO.mulT{s:ai}{r:List ai}(b:s.1.nat=true)(h:dO r):dO (r.map (mulT s)):=λt d=>by obtain⟨u,hu,rfl⟩:=List.mem_map.1 d;exact Ex.nat_add b (h u hu)
theorem dO.tail{s:ai}{l:List ai}(h:dO (s::l)):dO l:=λt b=>h t (by simp[b])
theorem dO.head{s:ai}{l:List ai}(h:dO (s::l)):s.1.nat=true:=h s sM
theorem dO.nil:dO []:=λ_ h=>by cases h
theorem dO.prods:∀{l r:List ai},dO l->dO r->dO (prods l r)
 | [],_,_,_=>dO.nil
 | _::_,_,h,h'=>(dO.mulT h.head h').append (dO.prods h.tail h')
theorem Hw{s:ai}{r:List ai}(x:Pt)(b:s.1.nat=true)(h:dO r):ev x (r.map (mulT s))=s.2*wX x s.1*ev x r:=by
 induction r with
 | nil=>simp only[List.map_nil,jh];grind
 | cons t r d=>rw[List.map_cons,kP,kP,d h.tail];simp only[mulT];rw[Mw x b h.head];grind
theorem Hy:∀{l r:List ai}(x:Pt),dO l->dO r->ev x (prods l r)=ev x l*ev x r
 | [],_,x,_,_=>by rw[yG,jh];grind
 | s::l,r,x,h,h'=>by rw[jV,oW,Hw x h.head h',Hy x h.tail h',kP];grind
theorem Eb(s:ai)(r:List ai):bI (r.map (mulT s))=bH s.2*bI r:=by
 induction r with
 | nil=>simp only[List.map_nil,bI];grind
 | cons t r b=>simp only[List.map_cons,bI,b,mulT,jK];grind
theorem Bt(l r:List ai):bI (prods l r)=bI l*bI r:=by
 induction l with
 | nil=>simp only[yG,bI];grind
 | cons s l b=>rw[jV,tK,b,Eb];simp only[bI];grind
theorem wY(l r:List ai):(prods l r).length=l.length*r.length:=by
 induction l with
 | nil=>simp[yG]
 | cons s l b=>rw[jV];simp[b,Nat.add_mul];omega
theorem mQ{l r:List ai}{t:ai}(h:t∈prods l r):∃a∈l,∃b∈r,t=mulT a b:=by simp only[prods,List.mem_flatMap,List.mem_map]at h;obtain⟨a,ha,b,hb,e⟩:=h;exact⟨a,ha,b,hb,e.symm⟩
theorem qC{a b c d:Rat}(e:a<=b)(h:c<=d)(i:0<=a)(j:0<=d):a*c<=b*d:=by have k:a*c<=a*d:=Rat.mul_le_mul_of_nonneg_left h i;have l:a*d<=b*d:=Rat.mul_le_mul_of_nonneg_right e j;grind
theorem Bd.prods{s t:Sz}{l r:List ai}(h:Bd s l)(i:Bd t r):Bd (s.mul t) (prods l r) where
 n:=by rw[wY];exact Nat.mul_le_mul h.n i.n
 e:=λx j=>by obtain⟨a,ha,b,hb,rfl⟩:=mQ j;have:=h.e a ha;have:=i.e b hb;simp only[mulT,Ex.add,Sz.mul];omega
 d:=λx j=>by obtain⟨a,ha,b,hb,rfl⟩:=mQ j;exact(h.d a ha).mul (i.d b hb)
 b:=by rw[Bt];simp only[Sz.mul];rw[Rat.natCast_mul];exact qC h.b i.b (mf _) (Rat.natCast_nonneg)
end Q
end
section
namespace Q
abbrev e0:Ex:=(0,0,0,0)
def bZ (c:Rat):List ai:=if c=0 then []else [(e0,c)]
def zR (v:Nat):Ex:=Ex.put e0 v 1
def rG (v:Nat):List ai:=[(zR v,1)]
def pO (p q:List ai):List ai:=canon (p++q)
def bN (p:List ai) (c:Rat):List ai:=if c=0 then []else p.map λt=>(t.1,t.2*c)
def gH (p q:List ai):List ai:=pO p (bN q (-1))
def aX (p q:List ai):List ai:=canon (prods p q)
def qP (p:List ai):Nat->List ai
 | 0=>bZ 1
 | n+1=>aX (qP p n) p
def aD (p:List ai) (v:Nat):Int:=p.foldl (λd t=>max d (t.1.get v)) (-1)
def aN (p:List ai) (v:Nat) (n:Int):List ai:=(p.filter λt=>t.1.get v=n).map λt=>(t.1.put v 0,t.2)
def aA (p:List ai) (v:Nat):List (List ai):=(List.range (aD p v+1).toNat).map λn:Nat=>aN p v n
def gJ (p:List ai) (v:Nat) (i:Int):List ai:=p.map λt=>(t.1.put v (t.1.get v+i),t.2)
def fromL (v:Nat):Int->List (List ai)->List ai
 | _,[]=>[]
 | i,p::l=>gJ p v i++fromL v (i+1) l
def tO (l:List (List ai)) (v:Nat):List ai:=canon (fromL v 0 l)
def dC (p:List ai) (v:Nat):List ai:=(p.filter λt=>0<t.1.get v).map λt=>(t.1.put v (t.1.get v-1),t.2*(t.1.get v:Rat))
def evalL (p:List ai) (v:Nat) (c:Rat):List ai:=p.map λt=>(t.1.put v 0,t.2*c^(t.1.get v).toNat)
def wZ (p:List ai) (v:Nat) (c:Rat):List ai:=canon (evalL p v c)
def Yk (p:List ai) (v:Nat) (b:List ai):List ai:=(aA p v).foldr (λc out=>pO (aX out b) c) []
theorem bR.const(c:Rat):bR (bZ c):=by
 unfold bZ;split
 ·exact bR.nil
 ·rename_i h;exact⟨List.pairwise_cons.2 ⟨λ_ h=>(by cases h),List.Pairwise.nil⟩,λt b=>by simp at b;subst b;exact⟨h,rfl⟩⟩
theorem Ol(v:Nat):(zR v).nat=true:=by rcases v with _|_|_|v<;>rfl
theorem bR.var(v:Nat):bR (rG v) :=
 ⟨List.pairwise_cons.2 ⟨λ_ h=>(by cases h),List.Pairwise.nil⟩,λt b=>by simp[rG]at b;subst b;exact⟨(by decide:(1:Rat)≠0),Ol v⟩⟩
theorem bR.add(p q:List ai):bR (pO p q):=fA _
theorem bR.mul(p q:List ai):bR (aX p q):=fA _
theorem bR.sub(p q:List ai):bR (gH p q):=fA _
theorem jw{a b:Rat}(ha:a≠0)(hb:b≠0):a*b≠0:=by
 intro h;rcases Rat.mul_eq_zero.1 h with h|h
 ·exact ha h
 ·exact hb h
theorem FV.map{l:List ai}{g:ai->ai}(h:FV l)(hg:∀s∈l,∀t∈l,s.1.gt t.1=true->(g s).1.gt (g t).1=true):FV (l.map g):=by unfold FV at *;rw[List.pairwise_map];exact h.imp_of_mem λb d=>hg _ b _ d
theorem bR.scale{p:List ai}(h:bR p)(c:Rat):bR (bN p c):=by
 unfold bN;split
 ·exact bR.nil
 ·rename_i hc;refine⟨h.1.map λ_ _ _ _ h=>h,λt d=>?_⟩;obtain⟨s,b,rfl⟩:=List.mem_map.1 d;exact⟨jw (h.2 s b).1 hc,(h.2 s b).2⟩
theorem bR.pow(p:List ai):∀n,bR (qP p n)
 | 0=>bR.const _
 | _+1=>fA _
theorem Ex.put_nat{e:Ex}(h:e.nat=true)(v:Nat){x:Int}(b:0<=x):(e.put v x).nat=true:=by rw[Ex.nat_iff]at *;rcases v with _|_|_|v<;>simp only[Ex.put]<;>omega
theorem Ex.get_put(e:Ex)(v:Nat)(x:Int):(e.put v x).get v=x:=by rcases v with _|_|_|v<;>rfl
theorem Ex.put_get(e:Ex)(v:Nat):e.put v (e.get v)=e:=by rcases v with _|_|_|v<;>rfl
theorem Ex.put_put(e:Ex)(v:Nat)(x y:Int):(e.put v x).put v y=e.put v y:=by rcases v with _|_|_|v<;>rfl
theorem Ex.gt_put_same{e f:Ex}(v:Nat)(h:e.gt f=true)(hv:e.get v=f.get v)(x:Int):(e.put v x).gt (f.put v x)=true:=by rw[Ex.gt_iff]at *;obtain⟨a,b,c,d⟩:=e;obtain⟨a',i,c',d'⟩:=f;rcases v with _|_|_|v<;>simp only[Ex.put,Ex.get]at h hv ⊢<;>subst hv<;>simp only[Int.lt_irrefl,and_false,or_false,false_or,true_and]at h ⊢<;>omega
theorem FV.sub{l r:List ai}(h:FV l)(b:r.Sublist l):FV r:=List.Pairwise.sublist b h
theorem bR.sublist{l r:List ai}(h:bR l)(b:r.Sublist l):bR r:=⟨h.1.sub b,λt d=>h.2 t (b.subset d)⟩
theorem bR.coeff{p:List ai}(h:bR p)(v:Nat)(n:Int):bR (aN p v n):=by
 unfold aN;have d:=h.sublist (List.filter_sublist (l:=p) (p:=λt=>t.1.get v=n));refine⟨d.1.map λs b t i e=>Ex.gt_put_same v e ?_ 0,λt i=>?_⟩
 ·have j:=(List.mem_filter.1 b).2;have k:=(List.mem_filter.1 i).2;simp only[decide_eq_true_eq]at j k;rw[j,k]
 ·obtain⟨s,b,rfl⟩:=List.mem_map.1 i;exact⟨(d.2 s b).1,Ex.put_nat (d.2 s b).2 v (Int.le_refl _)⟩
theorem pQ(x:Pt)(c:Rat):ev x (bZ c)=c:=by
 unfold bZ;split
 ·rename_i h;rw[jh,h]
 ·rw[kP,jh];simp[wX];grind
theorem PW(x:Pt)(v:Nat):ev x (rG v)=x.get v:=by
 rw[rG,kP,jh]
 have:wX x (zR v)=x.get v:=by rcases v with _|_|_|v<;>simp[zR,Ex.put,Pt.get,wX,Rat.pow_succ,Rat.pow_zero]
 rw[this];grind
theorem ev_add(x:Pt){p q:List ai}(h:dO p)(b:dO q):ev x (pO p q)=ev x p+ev x q:=by rw[pO,nJ (h.append b),oW]
theorem ev_scale(x:Pt)(p:List ai)(c:Rat):ev x (bN p c)=ev x p*c:=by
 unfold bN;split
 ·rename_i h;rw[jh,h];grind
 ·unfold ev;rw[yC _ _ (λe=>c*wX x e) p (λt _=>gR),AC];grind
theorem ev_sub(x:Pt){p q:List ai}(h:dO p)(b:bR q):ev x (gH p q)=ev x p-ev x q:=by rw[gH,ev_add x h (b.scale _).nat,ev_scale];grind
theorem ev_mul(x:Pt){p q:List ai}(h:dO p)(b:dO q):ev x (aX p q)=ev x p*ev x q:=by rw[aX,nJ (h.prods b),Hy x h b]
theorem ev_pow(x:Pt){p:List ai}(h:dO p):∀n,ev x (qP p n)=ev x p^n
 | 0=>by rw[qP,pQ,Rat.pow_zero]
 | n+1=>by rw[qP,ev_mul x (bR.pow p n).nat h,ev_pow x h n,Rat.pow_succ]
theorem FZ(x:Pt)(e:Ex)(v:Nat)(c:Rat):wX (x.put v c) e=wX x (e.put v 0)*c^(e.get v).toNat:=by rcases v with _|_|_|v<;>simp only[Pt.put,Ex.put,Ex.get,wX,Int.toNat_zero,Rat.pow_zero]<;>grind
theorem Hz(x:Pt)(e:Ex)(v:Nat)(n:Int):wX x (e.put v n)=wX x (e.put v 0)*x.get v^n.toNat:=by rcases v with _|_|_|v<;>simp only[Pt.get,Ex.put,wX,Int.toNat_zero,Rat.pow_zero]<;>grind
theorem dO.evalL{p:List ai}(h:dO p)(v:Nat)(c:Rat):dO (evalL p v c):=λt d=>by obtain⟨s,b,rfl⟩:=List.mem_map.1 d;exact Ex.put_nat (h s b) v (Int.le_refl _)
theorem PX(x:Pt)(p:List ai)(v:Nat)(c:Rat):ev x (evalL p v c)=ev (x.put v c) p:=by unfold ev evalL;exact yC _ _ _ p λt _=>by rw[FZ];grind
theorem ev_eval(x:Pt){p:List ai}(h:dO p)(v:Nat)(c:Rat):ev x (wZ p v c)=ev (x.put v c) p:=by rw[wZ,nJ (h.evalL v c),PX]
theorem fQ(f:ai->Int):∀(p:List ai)(d:Int),d<=p.foldl (λd t=>max d (f t)) d/\(∀t∈p,f t<=p.foldl (λd t=>max d (f t)) d)/\(p.foldl (λd t=>max d (f t)) d=d\/∃t∈p,f t=p.foldl (λd t=>max d (f t)) d)
 | [],d=>⟨Int.le_refl _,(λ_ h=>by cases h),Or.inl rfl⟩
 | t::p,d=>by
  obtain⟨j,i,b⟩:=fQ f p (max d (f t));refine⟨by simp only[List.foldl_cons];omega,λs e=>?_,?_⟩
  ·simp only[List.foldl_cons];rcases List.mem_cons.1 e with rfl|e
   ·omega
   ·exact i s e
  ·simp only[List.foldl_cons];rcases b with b|⟨s,e,b⟩
   ·rw[b];rcases Int.le_total d (f t)with h|h
    ·exact Or.inr ⟨t,sM,oM⟩
    ·exact Or.inl oM
   ·exact Or.inr ⟨s,by simp[e],b⟩
theorem rH(p:List ai)(v:Nat):-1<=aD p v:=(fQ (λt=>t.1.get v) p (-1)).1
theorem eU{p:List ai}{t:ai}(h:t∈p)(v:Nat):t.1.get v<=aD p v:=(fQ (λt=>t.1.get v) p (-1)).2.1 t h
theorem tQ{p:List ai}(h:p≠[])(b:dO p)(v:Nat):∃t∈p,t.1.get v=aD p v:=by
 rcases(fQ (λt=>t.1.get v) p (-1)).2.2 with h1|h1
 ·exfalso
  cases p with
  | nil=>exact h rfl
  | cons t p =>
   have:=eU (p:=t::p) (t:=t) sM v;have:=Ex.nat_get (b t sM) v;unfold aD at *;omega
 ·exact h1
theorem dS(p:List ai)(v:Nat):(aA p v).length=(aD p v+1).toNat:=by simp[aA]
theorem fG(f:Ex->Rat)(p:List ai)(v:Nat)(n:Int):Lf f (aN p v n)=Lf (λe=>if e.get v=n then f (e.put v 0)else 0) p:=by
 unfold aN
 induction p with
 | nil=>rfl
 | cons t p b =>
  simp only[List.filter_cons];split
  ·rename_i h;simp only[decide_eq_true_eq]at h;simp only[List.map_cons,rF,b,if_pos h]
  ·rename_i h;simp only[decide_eq_true_eq]at h;simp only[rF,b,if_neg h];grind
def iJ (f:Nat->Rat):Nat->Rat
 | 0=>0
 | n+1=>iJ f n+f n
theorem lT{f g:Nat->Rat}:∀{n:Nat},(∀i,i<n->f i=g i)->iJ f n=iJ g n
 | 0,_=>rfl
 | n+1,h=>by rw[iJ,iJ,lT (n:=n) (λi b=>h i (by omega)),h n (by omega)]
theorem Bw(f g:Nat->Rat):∀n,iJ (λi=>f i+g i) n=iJ f n+iJ g n
 | 0=>by simp only[iJ];grind
 | n+1=>by simp only[iJ,Bw f g n];grind
theorem Bz{f:Nat->Rat}{k:Nat}:∀{n:Nat},k<n->(∀i,i<n->i≠k->f i=0)->iJ f n=f k
 | 0,h,_=>by omega
 | n+1,h,h'=>by
  rw[iJ];by_cases e:k=n
  ·subst e;have:iJ f k=iJ (λ_=>0) k:=lT λi j=>h' i oM oM
   have z:∀m,iJ (λ_=>(0:Rat)) m=0:=by intro m;induction m with
    | zero=>rfl
    | succ m l=>simp only[iJ,l];grind
   rw[this,z];grind
  ·rw[Bz (n:=n) oM (λi j b=>h' i oM b),h' n oM (λd=>e d.symm)];grind
theorem BA(x:Pt)(v:Nat)(c:Rat)(N:Nat):∀{p:List ai},dO p->(∀t∈p,t.1.get v<N)->ev (x.put v c) p=iJ (λn=>ev x (aN p v n)*c^n) N
 | [],_,_=>by
  have:∀m,iJ (λn=>ev x (aN [] v n)*c^n) m=0:=by
   intro m;induction m with
   | zero=>rfl
   | succ m d=>simp only[iJ,d];show(0:Rat)+(0:Rat)*_=0;grind
  rw[this];rfl
 | t::p,h,hN=>by
  have j:=Ex.nat_get h.head v;have l:=hN t sM;rw[kP,BA x v c N h.tail (λs b=>hN s (by simp[b])),FZ]
  have e:∀n:Nat,ev x (aN (t::p) v n)*c^n=(if t.1.get v=n then t.2*wX x (t.1.put v 0)else 0)*c^n+ev x (aN p v n)*c^n:=by intro n;unfold ev;rw[fG,fG,rF];split<;>grind
  rw[lT (λi _=>e i),Bw,Bz (f:=λn:Nat=>(if t.1.get v=(n:Int)then t.2*wX x (t.1.put v 0)else 0)*c^n) (k:=(t.1.get v).toNat) oM (λi _ o=>by rw[if_neg oM];grind),if_pos oM];grind
theorem ME{p:List ai}{v:Nat}:∀t∈p,t.1.get v<((aD p v+1).toNat:Int):=λt b=>by have:=eU b v;have:=rH p v;omega
def X3 (b:List ai) (l:List (List ai)):List ai:=l.foldr (λc out=>pO (aX out b) c) []
theorem eu{p c:List ai}{v:Nat}(h:c∈aA p v):∃n:Nat,c=aN p v n:=by obtain⟨n,_,e⟩:=List.mem_map.1 h;exact⟨n,e.symm⟩
theorem zS{p:List ai}{v n:Nat}(h:n<(aD p v+1).toNat):(aA p v).getD n []=aN p v n:=by simp[aA,jD,h]
theorem PY(x:Pt){p:List ai}(h:dO p)(v i:Nat):ev x (gJ p v i)=ev x p*x.get v^i:=by
 unfold ev gJ
 rw[yC _ _ (λe=>x.get v^i*wX x e) p (λt b=>by
  have:=Ex.nat_get (h t b) v;rw[Hz x t.1 v (t.1.get v+i),Int.toNat_add this (Int.natCast_nonneg i),pM];have e:=Hz x t.1 v (t.1.get v);rw[Ex.put_get]at e;simp only[Int.toNat_natCast]
  rw[e];grind),AC];grind
theorem dO.shift{p:List ai}(h:dO p)(v:Nat){i:Int}(e:0<=i):dO (gJ p v i):=λt d=>by obtain⟨s,b,rfl⟩:=List.mem_map.1 d;exact Ex.put_nat (h s b) v (by have:=Ex.nat_get (h s b) v;omega)
theorem dO.fromL(v:Nat):∀{l:List (List ai)}{i:Int},0<=i->(∀c∈l,dO c)->dO (fromL v i l)
 | [],_,_,_=>dO.nil
 | c::l,i,hi,h=>((h c (by simp)).shift v hi).append (dO.fromL v (by omega) (λc hc=>h c (by simp[hc])))
theorem H5(x:Pt)(v:Nat):∀{l:List (List ai)}{i:Nat},(∀c∈l,dO c)->ev x (fromL v i l)=iJ (λn=>ev x (l.getD n [])*x.get v^n) l.length*x.get v^i
 | [],i,_=>by simp only[fromL,jh,List.length_nil,iJ];grind
 | c::l,i,h=>by
  have e:((i:Int)+1)=((i+1:Nat):Int):=oM;rw[fromL,oW,PY x (h c sM),e,H5 x v (λc hc=>h c (by simp[hc]))]
  have key:∀n:Nat,iJ (λi=>ev x ((c::l).getD i [])*x.get v^i) (n+1)=iJ (λi=>ev x (l.getD i [])*x.get v^i) n*x.get v+ev x c:=by
   intro n
   induction n with
   | zero=>simp only[iJ,List.getD_cons_zero,Rat.pow_zero];grind
   | succ n b =>
    rw[iJ,b];simp only[iJ,List.getD_cons_succ,Rat.pow_succ];grind
  rw[List.length_cons,key,Rat.pow_succ];grind
theorem F5(x:Pt)(v:Nat){l:List (List ai)}(h:∀c∈l,dO c):ev x (tO l v)=iJ (λn=>ev x (l.getD n [])*x.get v^n) l.length:=by have:=H5 x v (i:=0) h;rw[tO,nJ (dO.fromL v (Int.le_refl _) h)];rw[show((0:Nat):Int)=0 from rfl]at this;rw[this,Rat.pow_zero];grind
theorem Pt.put_get(x:Pt)(v:Nat):x.put v (x.get v)=x:=by rcases v with _|_|_|v<;>rfl
theorem zT{p:List ai}(h:bR p)(v:Nat):tO (aA p v) v=p:=by
 refine Oj (dO.fromL v (Int.le_refl _) λc hc=>?_) h λx=>?_
 ·obtain⟨n,rfl⟩:=eu hc;exact(h.coeff v n).nat
 ·have:=F5 x v (l:=aA p v) (λc hc=>by obtain⟨n,rfl⟩:=eu hc;exact(h.coeff v n).nat);rw[tO,nJ (dO.fromL v (Int.le_refl _) λc hc=>by obtain⟨n,rfl⟩:=eu hc;exact(h.coeff v n).nat)]at this;rw[this];have e:=BA x v (x.get v) _ h.nat ME;rw[Pt.put_get]at e;rw[e,dS];exact lT λi b=>by rw[zS b]
end Q
end
section
namespace Q
theorem Ko{l:List ai}(h:l.Pairwise (λs t=>s.1≠t.1)){t:ai}(b:t∈l):cf l t.1=t.2:=by
 induction l with
 | nil=>cases b
 | cons s l i =>
  obtain⟨d,e⟩:=List.pairwise_cons.1 h;rw[bJ];rcases List.mem_cons.1 b with rfl|b
  ·rw[if_pos rfl,nZ (λu hu=>(d u hu).symm)];grind
  ·rw[if_neg (d t b),i e b];grind
theorem PZ{l:List ai}{e:Ex}(h:cf l e≠0):∃t∈l,t.1=e:=by apply Classical.byContradiction;intro b;exact h (nZ λt d he=>b ⟨t,d,he⟩)
theorem SL{l r:List ai}(h:l.Perm r)(e:Ex):cf l e=cf r e:=by
 induction h with
 | nil=>rfl
 | cons x _ b=>rw[bJ,bJ,b]
 | swap x y l=>rw[bJ,bJ,bJ,bJ];grind
 | trans _ _ h1 h2=>rw[h1,h2]
theorem yH{l L d:List ai}(k:L.Pairwise (λs t=>s.1≠t.1))(n:∀t∈L,t.1.nat=true/\t.2=cf l t.1/\t.2≠0)(o:∀e:Ex,e.nat=true->cf l e≠0->(e,cf l e)∈L)
  (hp:L.Perm d) (q:d.Pairwise (λs t=>t.1.gt s.1=false)):d=canon l:=by
 have m:d.Pairwise (λs t=>s.1≠t.1):=(hp.pairwise_iff (λh=>Ne.symm h)).1 k
 have i:FV d:=by have:=List.pairwise_and_iff.2 ⟨q,m⟩;exact this.imp λ⟨a,b⟩=>Ex.gt_total a (λe=>b e.symm)
 have hv:bR d:=⟨i,λt j=>by have:=n t (hp.mem_iff.2 j);exact⟨this.2.2,this.1⟩⟩;refine hv.inj (fA l) λe=>?_;rw[nI,<-SL hp];by_cases hz:cf L e=0
 ·rw[hz];split
  ·rename_i p;apply Classical.byContradiction;intro hc;have:=Ko k (o e p (λh=>hc h.symm));rw[hz]at this;exact hc this
  ·rfl
 ·obtain⟨t,j,rfl⟩:=PZ hz;rw[Ko k j,if_pos (n t j).1,(n t j).2.1]
def dD:List ai->List ai->List ai
 | [],q=>q
 | p,[]=>p
 | s::p,t::q=>if s.1.gt t.1=true then s::dD p (t::q)else if t.1.gt s.1=true then t::dD (s::p) q else if s.2+t.2=0 then dD p q else(s.1,s.2+t.2)::dD p q
 termination_by p q=>p.length+q.length
theorem mergeP_nil(p:List ai):dD p []=p:=by cases p<;>simp[dD]
theorem nK(q:List ai):dD [] q=q:=by simp[dD]
theorem jA{e:Ex}:∀{p q:List ai},(∀t∈p,e.gt t.1=true)->(∀t∈q,e.gt t.1=true)->∀t∈dD p q,e.gt t.1=true
 | [],q,_,h=>by rw[nK];exact h
 | s::p,[],h,_=>by rw[mergeP_nil];exact h
 | s::p,t::q,h,h'=>by
  intro u hu;unfold dD at hu;have d:=h s sM;have b:=h' t sM;have hp:∀t∈p,e.gt t.1=true:=λt b=>h t (by simp[b]);have hq:∀t∈q,e.gt t.1=true:=λt b=>h' t (by simp[b]);split at hu
  ·rcases List.mem_cons.1 hu with rfl|hu
   ·exact d
   ·exact jA hp h' u hu
  ·split at hu
   ·rcases List.mem_cons.1 hu with rfl|hu
    ·exact b
    ·exact jA h hq u hu
   ·split at hu
    ·exact jA hp hq u hu
    ·rcases List.mem_cons.1 hu with rfl|hu
     ·exact d
     ·exact jA hp hq u hu
 termination_by p q=>p.length+q.length
theorem uO:∀{p q:List ai},bR p->bR q->bR (dD p q)/\∀e,cf (dD p q) e=cf p e+cf q e
 | [],q,_,h=>by rw[nK];exact⟨h,λe=>by rw[jv];grind⟩
 | s::p,[],h,_=>by rw[mergeP_nil];exact⟨h,λe=>by rw[jv];grind⟩
 | s::p,t::q,h,h'=>by
  have hp:=h.tail;have hq:=h'.tail;unfold dD;split
  ·rename_i hg;obtain⟨b,d⟩:=uO hp h';refine⟨⟨List.pairwise_cons.2 ⟨jA (h.1.head) (λu hu=>?_),b.1⟩,λu hu=>?_⟩,λe=>?_⟩
   ·rcases List.mem_cons.1 hu with rfl|hu
    ·exact hg
    ·exact Ex.gt_trans hg (h'.1.head u hu)
   ·rcases List.mem_cons.1 hu with rfl|hu
    ·exact h.2 _ sM
    ·exact b.2 u hu
   ·rw[bJ,d,bJ (l:=p)];grind
  ·split
   ·rename_i hg;obtain⟨b,d⟩:=uO h hq;refine⟨⟨List.pairwise_cons.2 ⟨jA (λu hu=>?_) (h'.1.head),b.1⟩,λu hu=>?_⟩,λe=>?_⟩
    ·rcases List.mem_cons.1 hu with rfl|hu
     ·exact hg
     ·exact Ex.gt_trans hg (h.1.head u hu)
    ·rcases List.mem_cons.1 hu with rfl|hu
     ·exact h'.2 _ sM
     ·exact b.2 u hu
    ·rw[bJ,d,bJ (l:=q)];grind
   ·rename_i i j
    have he:s.1=t.1:=by apply Classical.byContradiction;intro k;exact j (Ex.gt_total (by simpa using i) k)
    obtain⟨b,d⟩:=uO hp hq;split
    ·rename_i hz;refine⟨b,λe=>?_⟩;rw[d,bJ,bJ,he];grind
    ·rename_i hz;refine⟨⟨List.pairwise_cons.2 ⟨jA (h.1.head) (λu hu=>by rw[he];exact h'.1.head u hu),b.1⟩,λu hu=>?_⟩,λe=>?_⟩
     ·rcases List.mem_cons.1 hu with rfl|hu
      ·exact⟨hz,(h.2 s sM).2⟩
      ·exact b.2 u hu
     ·rw[bJ,d,bJ,bJ,he];grind
 termination_by p q=>p.length+q.length
theorem qQ{p q:List ai}(hp:bR p)(hq:bR q):dD p q=pO p q:=by
 obtain⟨h,i⟩:=uO hp hq;refine h.inj (fA _) λe=>?_;rw[i,pO,nI,oV];split
 ·rfl
 ·rename_i d;rw[nZ (l:=p) (λt b he=>d (by rw[<-he];exact(hp.2 t b).2)),nZ (l:=q) (λt b he=>d (by rw[<-he];exact(hq.2 t b).2))];grind
end Q
end
section
namespace Q
theorem tT{e f g h:Ex}(d:e=f\/e.gt f=true)(b:g=h\/g.gt h=true)(i:¬(e=f/\g=h)):(e.add g).gt (f.add h)=true:=by
 rcases d with rfl|d
 ·rcases b with rfl|b
  ·exact absurd ⟨rfl,rfl⟩ i
  ·rw[Ex.gt_add];exact b
 ·rcases b with rfl|b
  ·rw[Ex.add_comm e,Ex.add_comm f,Ex.gt_add];exact d
  ·refine Ex.gt_trans (f:=e.add h) (by rw[Ex.gt_add];exact b) ?_;rw[Ex.add_comm e,Ex.add_comm f,Ex.gt_add];exact d
theorem FV.head_or{s:ai}{l:List ai}(h:FV (s::l)):∀u∈s::l,s.1=u.1\/s.1.gt u.1=true:=λu hu=>by
 rcases List.mem_cons.1 hu with rfl|hu
 ·exact .inl rfl
 ·exact .inr (h.head u hu)
theorem qI{s t:ai}{l r:List ai}(i:FV (s::l))(e:FV (t::r)):cf (prods (s::l) (t::r)) (s.1.add t.1)=s.2*t.2:=by
 rw[jV,oV,List.map_cons,bJ]
 have e1:cf (r.map (mulT s)) (s.1.add t.1)=0:=nZ λu hu=>by obtain⟨j,d,rfl⟩:=List.mem_map.1 hu;exact(Ex.gt_ne (tT (.inl rfl) (.inr (e.head j d)) (λh=>Ex.gt_ne (e.head j d) h.2))).symm
 have k:cf (prods l (t::r)) (s.1.add t.1)=0:=nZ λu hu=>by obtain⟨a,ha,b,hb,rfl⟩:=mQ hu;exact(Ex.gt_ne (tT (.inr (i.head a ha)) (e.head_or b hb) (λh=>Ex.gt_ne (i.head a ha) h.1))).symm
 rw[e1,k];simp only[mulT,if_true];grind
theorem F6{p q:List ai}(hp:bR p)(hq:bR q)(b:p≠[])(d:q≠[]):aX p q≠[]:=by
 cases p with
 | nil=>exact absurd rfl b
 | cons s l=>cases q with
  | nil=>exact absurd rfl d
  | cons t r =>
   intro h;have hc:=nI (prods (s::l) (t::r)) (s.1.add t.1);rw[show canon (prods (s::l) (t::r))=[]from h,jv,if_pos (Ex.nat_add hp.nat.head hq.nat.head),qI hp.1 hq.1]at hc;exact jw (hp.2 s sM).1 (hq.2 t sM).1 hc.symm
theorem Ec(q:List ai):aX [] q=[]:=rfl
theorem tV(p:List ai):aX p []=[]:=by
 have:prods p []=[]:=by induction p with
  | nil=>rfl
  | cons s l b=>rw[jV,b];rfl
 rw[aX,this];rfl
theorem F7{p q:List ai}(hp:bR p)(hq:bR q):aX p q=[]↔p=[]\/q=[]:=by
 constructor
 ·intro h;rcases Classical.em (p=[])with h1|h1
  ·exact .inl h1
  ·rcases Classical.em (q=[])with h2|h2
   ·exact .inr h2
   ·exact absurd h (F6 hp hq h1 h2)
 ·rintro (rfl|rfl)
  ·exact Ec _
  ·exact tV _
theorem tX(f:Ex->Rat)(r:List ai):∀l:List ai,Lf f (prods l r)=Lf (λe=>Lf (λb=>f (e.add b)) r) l
 | []=>rfl
 | s::l=>by
  rw[jV,oU,tX f r l,rF]
  congr 1
  rw[<-AC];exact yC f (mulT s) (λb=>s.2*f (s.1.add b)) r λt _=>by simp only[mulT];grind
theorem Ex.get_add(e f:Ex)(v:Nat):(e.add f).get v=e.get v+f.get v:=by rcases v with _|_|_|v<;>rfl
theorem Ex.put_add(e f:Ex)(v:Nat):(e.add f).put v 0=(e.put v 0).add (f.put v 0):=by rcases v with _|_|_|v<;>simp[Ex.add,Ex.put]
theorem zU{p q:List ai}(v:Nat):Ms (aN (prods p q) v (aD p v+aD q v)) (prods (aN p v (aD p v)) (aN q v (aD q v))):=λf=>by
 rw[fG,tX,tX,fG];refine jJ λs d=>?_;have e:=eU d v;split
 ·rename_i he;rw[fG];refine jJ λt b=>?_;rw[Ex.get_add,Ex.put_add];by_cases h:t.1.get v=aD q v
  ·rw[if_pos h,if_pos oM]
  ·rw[if_neg h,if_neg oM]
 ·rename_i he;rw[jJ (g:=λ_=>0) (λt b=>?_),Mt];have i:=eU b v;rw[Ex.get_add,if_neg oM]
theorem lw{P:Ex->Prop}{l:List ai}(h:∀t∈l,P t.1):∀t∈canon l,P t.1:=by
 have:∀(l r:List ai),(∀t∈l,P t.1)->(∀t∈r,P t.1)->∀t∈l.foldl ins r,P t.1:=by
  intro l
  induction l with
  | nil=>exact λr _ b=>b
  | cons m l i =>
   intro r e b;exact i _ (λt d=>e t (by simp[d])) (PV b (e m sM))
 exact this l [] h (λt d=>by cases d)
theorem bR.coeff_ne{p:List ai}(hp:bR p)(h:p≠[])(v:Nat):aN p v (aD p v)≠[]:=by obtain⟨t,b,e⟩:=tQ h hp.nat v;intro hc;have:(t.1.put v 0,t.2)∈aN p v (aD p v):=List.mem_map.2 ⟨t,List.mem_filter.2 ⟨b,by simpa using e⟩,rfl⟩;rw[hc]at this;cases this
theorem P5{p q:List ai}(hp:bR p)(hq:bR q)(m:p≠[])(n:q≠[])(v:Nat):aD (aX p q) v=aD p v+aD q v:=by
 have i:=F6 hp hq m n
 have kQ:∀t∈aX p q,t.1.get v<=aD p v+aD q v:=lw (P:=λe=>e.get v<=aD p v+aD q v) λt j=>by obtain⟨a,ha,b,hb,rfl⟩:=mQ j;have:=eU ha v;have:=eU hb v;simp only[mulT,Ex.get_add];omega
 obtain⟨t,j,e⟩:=tQ i (bR.mul p q).nat v;have r:=kQ t j
 have hc:aN (aX p q) v (aD p v+aD q v)≠[]:=by
  intro h
  have o:Ms (aN (aX p q) v (aD p v+aD q v)) (prods (aN p v (aD p v)) (aN q v (aD q v))):=λf=>by rw[fG,aX,(kN (dO.prods hp.nat hq.nat)) _,<-fG];exact zU v f
  rw[h]at o;have s:=F6 (hp.coeff v (aD p v)) (hq.coeff v (aD q v)) (hp.coeff_ne m v) (hq.coeff_ne n v);exact s (show canon _=[]from by rw[<-o.canon];rfl)
 obtain⟨c,d⟩:=List.exists_mem_of_ne_nil _ hc;obtain⟨u,hu,-⟩:=List.mem_map.1 d;obtain⟨k,l⟩:=List.mem_filter.1 hu;have x:=eU k v;have y:u.1.get v=aD p v+aD q v:=by simpa using l
 omega
end Q
end
section
namespace Q
theorem AJ{e:Ex}{c:Rat}(he:e.nat=true)(hc:c≠0):bR [(e,c)] :=
 ⟨List.pairwise_singleton _ _,λt b=>by rw[List.mem_singleton.1 b];exact⟨hc,he⟩⟩
theorem Ex.get_put_ne(e:Ex){x y:Nat}(b:x<4)(d:y<4)(h:x≠y)(a:Int):(e.put x a).get y=e.get y:=by
 obtain rfl|rfl|rfl|rfl:x=0\/x=1\/x=2\/x=3:=oM
 all_goals (obtain rfl|rfl|rfl|rfl:y=0\/y=1\/y=2\/y=3:=oM)<;>first|rfl|exact absurd rfl h
theorem Kq(p:List ai)(v:Nat)(n:Int):aD (aN p v n) v<=0:=by
 rcases(fQ (λt=>t.1.get v) (aN p v n) (-1)).2.2 with h|⟨t,b,h⟩
 ·show(aN p v n).foldl _ _<=0;rw[h];omega
 ·show(aN p v n).foldl _ _<=0;rw[<-h];obtain⟨s,-,rfl⟩:=List.mem_map.1 b;simp only[Ex.get_put];omega
theorem Om(p:List ai)(v:Nat)(c:Rat):aD (wZ p v c) v<=0:=by
 have hz:∀t∈wZ p v c,t.1.get v=0:=lw (P:=λe=>e.get v=0) λt b=>by obtain⟨s,-,rfl⟩:=List.mem_map.1 b;exact Ex.get_put _ _ _
 rcases(fQ (λt=>t.1.get v) (wZ p v c) (-1)).2.2 with h|⟨t,b,h⟩
 ·show(wZ p v c).foldl _ _<=0;rw[h];omega
 ·show(wZ p v c).foldl _ _<=0;rw[<-h,hz t b];omega
theorem bR.eval(p:List ai)(v:Nat)(c:Rat):bR (wZ p v c):=fA _
end Q
end
section
namespace Q
structure MP where
 l:List ai
 v:bR l
theorem MP.eq_of{p q:MP}(h:p.l=q.l):p=q:=by cases p;cases q;cases h;rfl
def MP.ev (x:Pt) (p:MP):Rat:=Q.ev x p.l
theorem MP.ext'{p q:MP}(h:∀x,p.ev x=q.ev x):p=q:=MP.eq_of (yE p.v q.v h)
def MP.c (r:Rat):MP:=⟨bZ r,bR.const r⟩
instance:Add MP:=⟨λp q=>⟨pO p.l q.l,bR.add _ _⟩⟩
instance:Mul MP:=⟨λp q=>⟨aX p.l q.l,bR.mul _ _⟩⟩
instance:Neg MP:=⟨λp=>⟨bN p.l (-1),p.v.scale _⟩⟩
instance:Sub MP:=⟨λp q=>⟨gH p.l q.l,bR.sub _ _⟩⟩
instance:NatCast MP:=⟨λn=>MP.c n⟩
instance:IntCast MP:=⟨λn=>MP.c n⟩
instance (n:Nat):OfNat MP n:=⟨MP.c (n:Rat)⟩
instance:SMul Nat MP:=⟨λn p=>(n:MP)*p⟩
instance:SMul Int MP:=⟨λn p=>(n:MP)*p⟩
instance:HPow MP Nat MP:=⟨λp n=>⟨qP p.l n,bR.pow _ _⟩⟩
theorem MP.ev_add(x:Pt)(p q:MP):(p+q).ev x=p.ev x+q.ev x:=Q.ev_add x p.v.nat q.v.nat
theorem MP.ev_mul(x:Pt)(p q:MP):(p*q).ev x=p.ev x*q.ev x:=Q.ev_mul x p.v.nat q.v.nat
theorem MP.ev_neg(x:Pt)(p:MP):(-p).ev x=- p.ev x:=by have:=Q.ev_scale x p.l (-1);show Q.ev x (bN p.l (-1))=- Q.ev x p.l;rw[this];grind
theorem MP.ev_sub(x:Pt)(p q:MP):(p-q).ev x=p.ev x-q.ev x:=Q.ev_sub x p.v.nat q.v
theorem MP.ev_c(x:Pt)(r:Rat):(MP.c r).ev x=r:=pQ x r
theorem MP.ev_nat(x:Pt)(n:Nat):((n:Nat):MP).ev x=n:=pQ x _
theorem MP.ev_int(x:Pt)(n:Int):((n:Int):MP).ev x=n:=pQ x _
theorem MP.ev_ofNat(x:Pt)(n:Nat):(OfNat.ofNat n:MP).ev x=(n:Rat):=pQ x _
theorem MP.ev_zero(x:Pt):(0:MP).ev x=0:=(pQ x ((0:Nat):Rat)).trans rfl
theorem MP.ev_one(x:Pt):(1:MP).ev x=1:=(pQ x ((1:Nat):Rat)).trans rfl
theorem MP.ev_pow(x:Pt)(p:MP)(n:Nat):(p^n).ev x=p.ev x^n:=Q.ev_pow x p.v.nat n
abbrev MP.cls {C:Type->Type} {α:Type} (_:C α):Type->Type:=C
instance:MP.cls Dyadic.instCommRing MP where
 add_zero a:=MP.ext' λx=>by rw[MP.ev_add,MP.ev_zero];grind
 add_comm a b:=MP.ext' λx=>by rw[MP.ev_add,MP.ev_add];grind
 add_assoc a b c:=MP.ext' λx=>by simp only[MP.ev_add];grind
 mul_assoc a b c:=MP.ext' λx=>by simp only[MP.ev_mul];grind
 mul_one a:=MP.ext' λx=>by rw[MP.ev_mul,MP.ev_one];grind
 one_mul a:=MP.ext' λx=>by rw[MP.ev_mul,MP.ev_one];grind
 left_distrib a b c:=MP.ext' λx=>by simp only[MP.ev_mul,MP.ev_add];grind
 right_distrib a b c:=MP.ext' λx=>by simp only[MP.ev_mul,MP.ev_add];grind
 zero_mul a:=MP.ext' λx=>by rw[MP.ev_mul,MP.ev_zero];grind
 mul_zero a:=MP.ext' λx=>by rw[MP.ev_mul,MP.ev_zero];grind
 pow_zero a:=MP.ext' λx=>by rw[MP.ev_pow,MP.ev_one,Rat.pow_zero]
 pow_succ a n:=MP.ext' λx=>by rw[MP.ev_pow,MP.ev_mul,MP.ev_pow,Rat.pow_succ]
 ofNat_succ a:=MP.ext' λx=>by have h:=MP.ev_ofNat x (a+1);have h2:=MP.ev_ofNat x a;rw[MP.ev_add,MP.ev_one,h,h2,Rat.natCast_add];rfl
 ofNat_eq_natCast n:=rfl
 nsmul_eq_natCast_mul n a:=rfl
 neg_add_cancel a:=MP.ext' λx=>by rw[MP.ev_add,MP.ev_neg,MP.ev_zero];grind
 sub_eq_add_neg a b:=MP.ext' λx=>by rw[MP.ev_add,MP.ev_neg,MP.ev_sub];grind
 neg_zsmul i a:=MP.ext' λx=>by show MP.ev x (((-i:Int):MP)*a)=MP.ev x (-((i:MP)*a));rw[MP.ev_mul,MP.ev_neg,MP.ev_mul,MP.ev_int,MP.ev_int,Rat.intCast_neg];grind
 zsmul_natCast_eq_nsmul n a:=MP.ext' λx=>by show MP.ev x (((n:Int):MP)*a)=MP.ev x ((n:MP)*a);rw[MP.ev_mul,MP.ev_mul,MP.ev_int,MP.ev_nat,iN]
 intCast_ofNat n:=MP.ext' λx=>by have h:=MP.ev_ofNat x n;rw[h];exact(MP.ev_int x _).trans (iN n)
 intCast_neg i:=MP.ext' λx=>by rw[MP.ev_int,MP.ev_neg,MP.ev_int,Rat.intCast_neg]
 mul_comm a b:=MP.ext' λx=>by rw[MP.ev_mul,MP.ev_mul];grind
theorem MP.zero_iff{p:MP}:p=0↔p.l=[]:=⟨λh=>by rw[h];rfl,λh=>MP.eq_of (by rw[h];rfl)⟩
theorem MP.mul_eq_zero{p q:MP}:p*q=0↔p=0\/q=0:=by rw[MP.zero_iff,MP.zero_iff,MP.zero_iff];exact F7 p.v q.v
theorem MP.mul_ne{p q:MP}(hp:p≠0)(hq:q≠0):p*q≠0:=λh=>(MP.mul_eq_zero.1 h).elim hp hq
theorem MP.cancel{p q r:MP}(hp:p≠0)(h:p*q=p*r):q=r:=by
 have:p*(q - r)=0:=gR;rcases MP.mul_eq_zero.1 this with h|h
 ·exact absurd h hp
 ·grind
theorem MP.one_ne:(1:MP)≠0:=λh=>by have:=MP.zero_iff.1 h;cases this
def MP.deg (v:Nat) (p:MP):Int:=aD p.l v
def MP.co (v n:Nat) (p:MP):MP:=⟨aN p.l v n,p.v.coeff v n⟩
def MP.fr (v:Nat) (p:MP):Prop:=p.deg v<=0
theorem MP.deg_mul{p q:MP}(hp:p≠0)(hq:q≠0)(v:Nat):(p*q).deg v=p.deg v+q.deg v :=
 P5 p.v q.v (λh=>hp (MP.zero_iff.2 h)) (λh=>hq (MP.zero_iff.2 h)) v
theorem MP.deg_ge(v:Nat)(p:MP):-1<=p.deg v:=rH _ _
theorem MP.deg_pos{p:MP}(hp:p≠0)(v:Nat):0<=p.deg v:=by obtain⟨t,b,e⟩:=tQ (λh=>hp (MP.zero_iff.2 h)) p.v.nat v;show 0<=aD p.l v;rw[<-e];exact Ex.nat_get (p.v.nat t b) v
theorem MP.deg_zero(v:Nat):(0:MP).deg v=-1:=rfl
theorem MP.fr_get{p:MP}{v:Nat}(h:p.fr v){t:ai}(b:t∈p.l):t.1.get v=0:=by have d:=eU b v;have e:=Ex.nat_get (p.v.nat t b) v;have i:aD p.l v<=0:=h;omega
theorem UC{p:MP}{v:Nat}(h:∀t∈p.l,t.1.get v=0):p.fr v:=by
 rcases(fQ (λt=>t.1.get v) p.l (-1)).2.2 with e|⟨t,b,e⟩
 ·show aD p.l v<=0;unfold aD;rw[e];omega
 ·show aD p.l v<=0;unfold aD;rw[<-e,h t b];omega
theorem MP.co_fr(v n:Nat)(p:MP):(p.co v n).fr v:=Kq _ _ _
theorem Oo{p q:MP}(h:Ms p.l q.l):p=q:=MP.eq_of (p.v.eqv_inj q.v h)
theorem MP.lf_add(f:Ex->Rat)(p q:MP):Lf f (p+q).l=Lf f p.l+Lf f q.l:=by have:=kN (p.v.nat.append q.v.nat) f;show Lf f (canon (p.l++q.l))=_;rw[this,oU]
theorem MP.lf_mul(f:Ex->Rat)(p q:MP):Lf f (p*q).l=Lf (λe=>Lf (λb=>f (e.add b)) q.l) p.l:=by have:=kN (p.v.nat.prods q.v.nat) f;show Lf f (canon (prods p.l q.l))=_;rw[this,tX]
theorem MP.lf_neg(f:Ex->Rat)(p:MP):Lf f (-p).l=- Lf f p.l:=by have h:p+-p=0:=gR;have:=MP.lf_add f p (-p);rw[h]at this;have e:Lf f (0:MP).l=0:=rfl;rw[e]at this;grind
theorem MP.co_add(v n:Nat)(p q:MP):(p+q).co v n=p.co v n+q.co v n:=Oo λf=>by rw[MP.lf_add];show Lf f (aN _ v n)=Lf f (aN _ v n)+Lf f (aN _ v n);rw[fG,fG,fG,MP.lf_add]
theorem MP.co_neg(v n:Nat)(p:MP):(-p).co v n=- p.co v n:=Oo λf=>by rw[MP.lf_neg];show Lf f (aN _ v n)=- Lf f (aN _ v n);rw[fG,fG,MP.lf_neg]
theorem MP.co_sub(v n:Nat)(p q:MP):(p-q).co v n=p.co v n-q.co v n:=by have h:p-q=p+-q:=gR;rw[h,MP.co_add,MP.co_neg];grind
theorem MP.co_mul_fr{d:MP}{v:Nat}(hd:d.fr v)(n:Nat)(p:MP):(d*p).co v n=d*p.co v n:=Oo λf=>by rw[MP.lf_mul];show Lf f (aN _ v n)=_;rw[fG,MP.lf_mul];refine jJ λt b=>?_;show _=Lf _ (aN _ v n);rw[fG];refine jJ λs _=>?_;have e:=MP.fr_get hd b;rw[Ex.get_add,e,Ex.put_add,show t.1.put v 0=t.1 by rw[<-e,Ex.put_get],Int.zero_add]
def MP.xk (v k:Nat):MP:=⟨[(e0.put v k,1)],AJ (Ex.put_nat rfl v (by omega)) (by decide)⟩
theorem BD(v:Nat):Ex.get e0 v=0:=by rcases v with _|_|_|v<;>rfl
theorem MP.xk_ne(v k:Nat):MP.xk v k≠0:=λh=>by have:=MP.zero_iff.1 h;cases this
theorem Ex.add_put0(e:Ex)(v:Nat)(k:Int):((e0.put v k).add e)=e.put v (e.get v+k):=by rcases v with _|_|_|v<;>simp[Ex.add,Ex.put,Ex.get,Int.add_comm]
theorem MP.co_xk(v k n:Nat)(p:MP):(MP.xk v k*p).co v n=if k<=n then p.co v (n-k)else 0:=Oo λf=>by
 show Lf f (aN _ v n)=_;rw[fG,MP.lf_mul];show Lf _ [((e0.put v k),(1:Rat))]=_;rw[rF,Kl];split
 ·rename_i h;show _=Lf f (aN _ v _);rw[fG]
  have:Lf (λb=>if((e0.put v ↑k).add b).get v=(n:Int)then f (((e0.put v ↑k).add b).put v 0)else 0) p.l=Lf (λe=>if e.get v=((n-k:Nat):Int)then f (e.put v 0)else 0) p.l:=jJ λt _=>by
   rw[Ex.add_put0,Ex.get_put,Ex.put_put];by_cases hc:t.1.get v=((n-k:Nat):Int)
   ·rw[if_pos hc,if_pos oM]
   ·rw[if_neg hc,if_neg oM]
  rw[this];grind
 ·rename_i h
  have:Lf (λb=>if((e0.put v ↑k).add b).get v=(n:Int)then f (((e0.put v ↑k).add b).put v 0)else 0) p.l=Lf (λ_=>0) p.l:=jJ λt d=>by rw[Ex.add_put0,Ex.get_put];have:=Ex.nat_get (p.v.nat t d) v;rw[if_neg oM]
  rw[this,Mt];show _=(0:Rat);grind
theorem MP.deg_xk(v k:Nat):(MP.xk v k).deg v=k:=by show max (-1) ((e0.put v k).get v)=k;rw[Ex.get_put];omega
theorem MP.co_above{p:MP}{v n:Nat}(h:p.deg v<n):p.co v n=0:=by rw[MP.zero_iff];show(p.l.filter λt=>t.1.get v=(n:Int)).map _=[];rw[List.map_eq_nil_iff,List.filter_eq_nil_iff];intro t b;have:=eU b v;have d:aD p.l v<n:=h;simp;omega
theorem MP.deg_le_of{p:MP}{v:Nat}{k:Int}(j:-1<=k)(h:∀n:Nat,k<n->p.co v n=0):p.deg v<=k:=by
 rcases Int.lt_or_le k (p.deg v)with hlt|kQ
 ·exfalso
  have b:p.l≠[]:=λe=>by
   have:p.deg v=-1:=by show aD p.l v=-1;rw[e];rfl
   omega
  obtain⟨t,d,e⟩:=tQ b p.v.nat v;have i:=Ex.nat_get (p.v.nat t d) v;have hz:=h (t.1.get v).toNat (by rw[e];show k<((aD p.l v).toNat:Int);rw[Int.toNat_of_nonneg (by rw[<-e];exact i)];exact hlt);rw[MP.zero_iff]at hz;have hz:(p.l.filter λu=>u.1.get v=((t.1.get v).toNat:Int)).map _=[]:=hz;rw[List.map_eq_nil_iff,List.filter_eq_nil_iff]at hz;exact hz t d (by simp;omega)
 ·exact kQ
def MP.lc (v:Nat) (p:MP):MP:=p.co v (p.deg v).toNat
theorem MP.lc_fr(v:Nat)(p:MP):(p.lc v).fr v:=MP.co_fr _ _ _
theorem MP.lc_ne{p:MP}(hp:p≠0)(v:Nat):p.lc v≠0:=λh=>by rw[MP.zero_iff]at h;have b:=p.v.coeff_ne (λe=>hp (MP.zero_iff.2 e)) v;have d:0<=aD p.l v:=MP.deg_pos hp v;apply b;have:aN p.l v ((aD p.l v).toNat:Int)=[]:=h;rwa[Int.toNat_of_nonneg d]at this
def cK (f:Nat->MP):Nat->MP
 | 0=>0
 | n+1=>cK f n+f n
theorem F8(x:Pt)(f:Nat->MP):∀n,(cK f n).ev x=iJ (λi=>(f i).ev x) n
 | 0=>MP.ev_zero x
 | n+1=>by rw[cK,MP.ev_add,F8 x f n];rfl
theorem MP.ev_xk(x:Pt)(v k:Nat):(MP.xk v k).ev x=x.get v^k:=by
 show(1:Rat)*wX x (e0.put v k)+0=_
 have:wX x (e0.put v k)=x.get v^k:=by rcases v with _|_|_|v<;>simp[wX,Ex.put,Pt.get,Rat.pow_zero,Rat.one_mul,Rat.mul_one]
 rw[this];grind
theorem MP.split(v:Nat)(p:MP){N:Nat}(h:p.deg v<N):p=cK (λn=>p.co v n*MP.xk v n) N:=MP.ext' λx=>by rw[F8];have:=BA x v (x.get v) N p.v.nat (λt b=>by have:=eU b v;have d:aD p.l v<N:=h;omega);rw[Pt.put_get]at this;show Q.ev x p.l=_;rw[this];refine lT λi _=>?_;rw[MP.ev_mul,MP.ev_xk];rfl
instance:Dvd MP:=⟨λa b=>∃c,b=a*c⟩
theorem MP.dvd_refl(a:MP):a∣a:=⟨1,gR⟩
theorem MP.dvd_trans{a b c:MP}(h:a∣b)(d:b∣c):a∣c:=by obtain⟨x,rfl⟩:=h;obtain⟨y,rfl⟩:=d;exact⟨x*y,gR⟩
theorem MP.dvd_mul_right(a b:MP):a∣a*b:=⟨b,rfl⟩
theorem MP.dvd_mul_left(a b:MP):a∣b*a:=⟨b,gR⟩
theorem MP.dvd_zero(a:MP):a∣0:=⟨0,gR⟩
theorem MP.zero_dvd{a:MP}(h:(0:MP)∣a):a=0:=by obtain⟨x,rfl⟩:=h;grind
theorem MP.dvd_add{a b c:MP}(h:a∣b)(d:a∣c):a∣b+c:=by obtain⟨x,rfl⟩:=h;obtain⟨y,rfl⟩:=d;exact⟨x+y,gR⟩
theorem MP.dvd_sub{a b c:MP}(h:a∣b)(d:a∣c):a∣b-c:=by obtain⟨x,rfl⟩:=h;obtain⟨y,rfl⟩:=d;exact⟨x - y,gR⟩
theorem MP.dvd_mul_of{a b:MP}(h:a∣b)(c:MP):a∣b*c:=by obtain⟨x,rfl⟩:=h;exact⟨x*c,gR⟩
theorem MP.dvd_mul_of'{a b:MP}(h:a∣b)(c:MP):a∣c*b:=by obtain⟨x,rfl⟩:=h;exact⟨c*x,gR⟩
theorem MP.mul_dvd{a b c d:MP}(h:a∣b)(e:c∣d):a*c∣b*d:=by obtain⟨x,rfl⟩:=h;obtain⟨y,rfl⟩:=e;exact⟨x*y,gR⟩
theorem MP.dvd_cancel{a b c:MP}(ha:a≠0)(h:a*b∣a*c):b∣c:=by obtain⟨x,e⟩:=h;exact⟨x,MP.cancel ha (by rw[e];grind)⟩
theorem MP.dvd_ne{a b:MP}(hb:b≠0)(h:a∣b):a≠0:=λe=>hb (MP.zero_dvd (e▸h))
theorem MP.dvd_deg{a b:MP}(hb:b≠0)(h:a∣b)(v:Nat):a.deg v<=b.deg v:=by obtain⟨x,rfl⟩:=h;have ha:a≠0:=λe=>hb (by rw[e];grind);have d:x≠0:=λe=>hb (by rw[e];grind);have:=MP.deg_pos d v;rw[MP.deg_mul ha d];omega
theorem MP.dvd_msum{a:MP}{f:Nat->MP}:∀{n:Nat},(∀i,i<n->a∣f i)->a∣cK f n
 | 0,_=>MP.dvd_zero a
 | n+1,h=>MP.dvd_add (MP.dvd_msum λi b=>h i (by omega)) (h n (by omega))
theorem MP.dvd_iff_co{d:MP}{v:Nat}(hd:d.fr v)(p:MP):d∣p↔∀n,d∣p.co v n:=by
 constructor
 ·rintro⟨q,rfl⟩ n;rw[MP.co_mul_fr hd];exact MP.dvd_mul_right _ _
 ·intro h;rw[MP.split v p (N:=(p.deg v).toNat+1) (by have:=MP.deg_ge v p;omega)];exact MP.dvd_msum λi _=>MP.dvd_mul_of (h i) _
def MP.unit (a:MP):Prop:=a∣1
theorem MP.unit_dvd{a:MP}(h:a.unit)(b:MP):a∣b:=by obtain⟨x,e⟩:=h;exact⟨x*b,gR⟩
theorem MP.unit_of_dvd{a b:MP}(h:a∣b)(hb:b.unit):a.unit:=MP.dvd_trans h hb
theorem MP.unit_one:(1:MP).unit:=MP.dvd_refl 1
theorem MP.unit_cancel{a u:MP}(ha:a≠0)(h:a*u∣a):u.unit:=by refine MP.dvd_cancel ha (c:=1) ?_;have e:a*1=a:=gR;rw[e];exact h
end Q
end
