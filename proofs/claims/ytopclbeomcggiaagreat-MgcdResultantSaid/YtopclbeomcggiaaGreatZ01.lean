/- Short steps' ends: a tactic that closes a goal, as a term. -/
import Derived.IntWalk
set_option linter.unusedVariables false
set_option linter.unusedSimpArgs false
set_option maxHeartbeats 16000000
set_option maxRecDepth 100000
section
theorem oM{p:Prop}(h:p:=by omega):p:=h
theorem dM{p:Prop}(h:p:=by decide):p:=h
theorem dK{p:Prop}(h:p:=by decide +kernel):p:=h
theorem sM{p:Prop}(h:p:=by simp):p:=h
theorem gR{p:Prop}(h:p:=by grind):p:=h
theorem aM{p:Prop}(h:p:=by assumption):p:=h
theorem kM{p:Prop}(h:p:=by kernel_rfl):p:=h
theorem nM{p:Prop}(h:p:=by go_num):p:=h
theorem nL(n:Nat):n<=n:=Nat.le_refl n
theorem gE.{u}{α:Type u}{l:List α}{i:Nat}(h:i<l.length):l[i]?=some l[i]:=List.getElem?_eq_getElem h
theorem jD.{u}{α:Type u}{l:List α}{i:Nat}{a:α}:l.getD i a=l[i]?.getD a:=List.getD_eq_getElem?_getD
theorem gS.{u}{α:Type u}{i:Nat}{a:α}{l:List α}:l[i]?=some a↔∃h:i<l.length,l[i]=a:=List.getElem?_eq_some_iff
theorem tL.{u}{α:Type u}{i:Nat}{l:List α}(h:l.length<=i):l.take i=l:=List.take_of_length_le h
theorem sJ.{u}{α:Type u}(a b:α):(some a=some b)=(a=b):=Option.some.injEq a b
theorem iN(n:Nat):((n:Int):Rat)=(n:Rat):=Rat.intCast_natCast n
theorem mZ{a b c:Int}(h:a<=b)(d:0<=c):c*a<=c*b:=Int.mul_le_mul_of_nonneg_left h d
theorem nU(n:Nat):n*1=n:=Nat.mul_one n
theorem gN.{u}{α:Type u}{l:List α}{i:Nat}(h:l.length<=i):l[i]?=none:=List.getElem?_eq_none h
end
section
namespace Q
abbrev Ex:=Int × Int × Int × Int
def Ex.get (e:Ex) (v:Nat):Int:=match v with|0=>e.1|1=>e.2.1|2=>e.2.2.1|_=>e.2.2.2
def Ex.put (e:Ex) (v:Nat) (x:Int):Ex:=match v with|0=>(x,e.2.1,e.2.2.1,e.2.2.2)|1=>(e.1,x,e.2.2.1,e.2.2.2)|2=>(e.1,e.2.1,x,e.2.2.2)|_=>(e.1,e.2.1,e.2.2.1,x)
def Ex.add (e f:Ex):Ex:=(e.1+f.1,e.2.1+f.2.1,e.2.2.1+f.2.2.1,e.2.2.2+f.2.2.2)
def Ex.sub (e f:Ex):Ex:=(e.1-f.1,e.2.1-f.2.1,e.2.2.1-f.2.2.1,e.2.2.2-f.2.2.2)
def Ex.nat (e:Ex):Bool:=decide (0<=e.1/\0<=e.2.1/\0<=e.2.2.1/\0<=e.2.2.2)
def Ex.gt (e f:Ex):Bool:=decide (f.2.2.2<e.2.2.2\/f.2.2.2=e.2.2.2/\(f.2.2.1<e.2.2.1\/f.2.2.1=e.2.2.1/\(f.2.1<e.2.1\/f.2.1=e.2.1/\f.1<e.1)))
theorem Ex.nat_iff{e:Ex}:e.nat=true↔0<=e.1/\0<=e.2.1/\0<=e.2.2.1/\0<=e.2.2.2:=decide_eq_true_iff
theorem Ex.gt_iff{e f:Ex}:e.gt f=true↔(f.2.2.2<e.2.2.2\/f.2.2.2=e.2.2.2/\(f.2.2.1<e.2.2.1\/f.2.2.1=e.2.2.1/\(f.2.1<e.2.1\/f.2.1=e.2.1/\f.1<e.1))):=decide_eq_true_iff
theorem Ex.ext'{e f:Ex}(i:e.1=f.1)(j:e.2.1=f.2.1)(k:e.2.2.1=f.2.2.1)(l:e.2.2.2=f.2.2.2):e=f:=by obtain⟨a,b,c,d⟩:=e;obtain⟨a',h,c',d'⟩:=f;simp_all
theorem Ex.gt_irrefl(e:Ex):e.gt e=false:=by simp[Ex.gt]
theorem Ex.gt_trans{e f g:Ex}(b:e.gt f=true)(d:f.gt g=true):e.gt g=true:=by simp only[Ex.gt,decide_eq_true_eq]at *;omega
theorem Ex.gt_ne{e f:Ex}(h:e.gt f=true):e≠f:=by rintro rfl;rw[Ex.gt_irrefl]at h;cases h
theorem Ex.gt_asymm{e f:Ex}(h:e.gt f=true):f.gt e=false:=by
 cases hf:f.gt e
 ·rfl
 ·have:=Ex.gt_trans h hf;rw[Ex.gt_irrefl]at this;cases this
theorem Ex.gt_total{e f:Ex}(h:e.gt f=false)(i:e≠f):f.gt e=true:=by obtain⟨a,b,c,d⟩:=e;obtain⟨a',j,c',d'⟩:=f;simp only[Ex.gt,decide_eq_true_eq,decide_eq_false_iff_not]at *;simp only[ne_eq,Prod.mk.injEq]at i;omega
theorem Ex.add_comm(e f:Ex):e.add f=f.add e:=by simp only[Ex.add];refine Ex.ext' ?_ ?_ ?_ ?_<;>simp only<;>omega
theorem Ex.zero_add(e:Ex):Ex.add (0,0,0,0) e=e:=by simp[Ex.add]
theorem Ex.gt_add{e f:Ex}(g:Ex):(g.add e).gt (g.add f)=e.gt f:=by rw[Bool.eq_iff_iff,Ex.gt_iff,Ex.gt_iff];simp only[Ex.add];omega
theorem Ex.nat_add{e f:Ex}(h:e.nat=true)(b:f.nat=true):(e.add f).nat=true:=by rw[Ex.nat_iff]at *;simp only[Ex.add];omega
theorem Ex.nat_get{e:Ex}(h:e.nat=true)(v:Nat):0<=e.get v:=by simp only[Ex.nat,decide_eq_true_eq]at h;unfold Ex.get;split<;>omega
abbrev ai:=Ex × Rat
def Ht (l:List ai):Prop:=l.Pairwise (λs t=>s.1.gt t.1=true)
def aY (l:List ai):Prop:=Ht l/\∀t∈l,t.2≠0/\t.1.nat=true
def Lf (f:Ex->Rat):List ai->Rat
 | []=>0
 | t::l=>t.2*f t.1+Lf f l
def cf (l:List ai) (e:Ex):Rat:=Lf (λx=>if x=e then 1 else 0) l
def Ov (l r:List ai):Prop:=∀f,Lf f l=Lf f r
theorem Ov.refl(l:List ai):Ov l l:=λ_=>rfl
theorem Mv(f:Ex->Rat):Lf f []=0:=rfl
theorem pJ(f:Ex->Rat)(t:ai)(l:List ai):Lf f (t::l)=t.2*f t.1+Lf f l:=rfl
theorem qh(f:Ex->Rat)(l r:List ai):Lf f (l++r)=Lf f l+Lf f r:=by
 induction l with
 | nil=>simp only[List.nil_append,Lf];grind
 | cons t l b=>simp only[List.cons_append,Lf,b];grind
theorem jK(f:Ex->Rat)(c:Rat)(l:List ai):Lf (λe=>c*f e) l=c*Lf f l:=by
 induction l with
 | nil=>simp[Lf]
 | cons t l b=>simp only[Lf,b];grind
theorem Mw(f g:Ex->Rat)(l:List ai):Lf (λe=>f e+g e) l=Lf f l+Lf g l:=by
 induction l with
 | nil=>simp only[Lf];grind
 | cons t l b=>simp only[Lf,b];grind
theorem Ow(l:List ai):Lf (λ_=>0) l=0:=by
 induction l with
 | nil=>rfl
 | cons t l b=>simp only[Lf,b];grind
theorem iU{f g:Ex->Rat}{l:List ai}(h:∀t∈l,f t.1=g t.1):Lf f l=Lf g l:=by
 induction l with
 | nil=>rfl
 | cons t l d=>simp only[Lf,h t sM,d (λs b=>h s (by simp[b]))]
theorem wZ(f:Ex->Rat)(g:ai->ai)(k:Ex->Rat)(l:List ai)(h:∀t∈l,(g t).2*f (g t).1=t.2*k t.1):Lf f (l.map g)=Lf k l:=by
 induction l with
 | nil=>rfl
 | cons t l d=>simp only[List.map_cons,Lf,h t sM,d (λs b=>h s (by simp[b]))]
theorem Qe(f:Ex->Rat)(e:Ex)(l:List ai):Lf f l=cf l e*f e+Lf f (l.filter (λt=>t.1 != e)):=by
 induction l with
 | nil=>simp only[Lf,cf,List.filter_nil];grind
 | cons t l b =>
  unfold cf at *;by_cases h:t.1=e
  ·subst h;simp[Lf,b];grind
  ·have d:(t.1 != e)=true:=bne_iff_ne.2 h;simp[Lf,h,b,d];grind
theorem Qf(e b:Ex)(l:List ai):cf (l.filter (λt=>t.1 != e)) b=if b=e then 0 else cf l b:=by
 induction l with
 | nil=>simp[cf,Lf]
 | cons t l d =>
  unfold cf at *;by_cases h:t.1=e
  ·subst h;simp only[List.filter_cons,bne_self_eq_false,Bool.false_eq_true,if_false,d,Lf];split
   ·rfl
   ·rename_i h;rw[if_neg (Ne.symm h)];grind
  ·have i:(t.1 != e)=true:=bne_iff_ne.2 h;simp only[List.filter_cons,i,if_true,Lf,d];split
   ·subst b;rw[if_neg h];grind
   ·grind
theorem CE:∀(n:Nat)(l:List ai),l.length<=n->(∀e,cf l e=0)->∀f,Lf f l=0
 | _,[],_,_,_=>rfl
 | 0,_::_,h,_,_=>by simp at h
 | n+1,t::l,hl,h,f=>by
  rw[Qe f t.1,h,CE n _ ?_ ?_]
  ·grind
  ·have:((t::l).filter (λs=>s.1 != t.1)).length<=l.length:=by
    simp only[List.filter_cons,bne_self_eq_false,Bool.false_eq_true,if_false];exact List.length_filter_le _ _
   simp at hl;omega
  ·intro e;rw[Qf];split
   ·rfl
   ·exact h e
theorem qi(l r:List ai)(e:Ex):cf (l++r) e=cf l e+cf r e:=qh _ _ _
def Hu (l:List ai):List ai:=l.map (λt=>(t.1,-t.2))
theorem Hw(f:Ex->Rat)(l:List ai):Lf f (Hu l)=- Lf f l:=by
 induction l with
 | nil=>simp[Lf,Hu]
 | cons t l b=>simp only[Hu,List.map_cons,Lf]at *;grind
theorem Qg{l r:List ai}(h:∀e,cf l e=cf r e):Ov l r:=λf=>by have:=CE _ (l++Hu r) (nL _) (λe=>by rw[qi];have:=h e;unfold cf at *;rw[Hw];grind) f;rw[qh,Hw]at this;grind
theorem Ov.cf{l r:List ai}(h:Ov l r)(e:Ex):cf l e=cf r e:=h _
theorem jL(e:Ex):cf [] e=0:=rfl
theorem bR(t:ai)(l:List ai)(e:Ex):cf (t::l) e=(if t.1=e then t.2 else 0)+cf l e:=by simp only[cf,Lf];split<;>grind
theorem oQ{l:List ai}{e:Ex}(h:∀t∈l,t.1≠e):cf l e=0:=by
 induction l with
 | nil=>rfl
 | cons t l d=>rw[bR,d (λs b=>h s (by simp[b])),if_neg (h t sM)];grind
theorem Ht.tail{t:ai}{l:List ai}(h:Ht (t::l)):Ht l:=(List.pairwise_cons.1 h).2
theorem Ht.head{t:ai}{l:List ai}(h:Ht (t::l)):∀s∈l,t.1.gt s.1=true:=(List.pairwise_cons.1 h).1
theorem aY.nil:aY []:=⟨List.Pairwise.nil,λ_ h=>by cases h⟩
theorem aY.tail{t:ai}{l:List ai}(h:aY (t::l)):aY l:=⟨h.1.tail,λs b=>h.2 s (by simp[b])⟩
theorem aY.cf_head{t:ai}{l:List ai}(h:aY (t::l)):cf (t::l) t.1=t.2:=by rw[bR,if_pos rfl,oQ (λs b=>(Ex.gt_ne (h.1.head s b)).symm)];grind
theorem aY.cf_top{t:ai}{l:List ai}(h:aY (t::l)){e:Ex}(he:e.gt t.1=true):cf (t::l) e=0:=by
 refine oQ λs b=>?_;rcases List.mem_cons.1 b with rfl|b
 ·exact(Ex.gt_ne he).symm
 ·exact(Ex.gt_ne (Ex.gt_trans he (h.1.head s b))).symm
theorem aY.inj:∀{l r:List ai},aY l->aY r->(∀e,cf l e=cf r e)->l=r
 | [],[],_,_,_=>rfl
 | [],t::r,_,hr,h=>absurd ((hr.cf_head).symm.trans (h t.1).symm) (hr.2 t (by simp)).1
 | t::l,[],hl,_,h=>absurd ((hl.cf_head).symm.trans (h t.1)) (hl.2 t (by simp)).1
 | t::l,s::r,hl,hr,h=>by
  have he:t.1=s.1:=by
   rcases hc:t.1.gt s.1 with _|_
   ·by_cases b:t.1=s.1
    ·exact b
    ·have d:=Ex.gt_total hc b;exact absurd (by rw[<-hr.cf_head,<-h];exact hl.cf_top d) (hr.2 s sM).1
   ·exact absurd (by rw[<-hl.cf_head,h];exact hr.cf_top hc) (hl.2 t sM).1
  have i:t.2=s.2:=by rw[<-hl.cf_head,<-hr.cf_head,h,he]
  have j:t=s:=Prod.ext he i;subst j;rw[aY.inj hl.tail hr.tail λe=>?_];have:=h e;rw[bR,bR]at this;grind
theorem aY.eqv_inj{l r:List ai}(b:aY l)(d:aY r)(h:Ov l r):l=r:=b.inj d h.cf
def ins:List ai->ai->List ai
 | [],m=>if m.2≠0/\m.1.nat=true then [m]else []
 | t::r,m=>if t.1.gt m.1 then t::ins r m else if t.1=m.1 then(if m.2+t.2≠0/\m.1.nat=true then(m.1,m.2+t.2)::r else r)else if m.2≠0/\m.1.nat=true then m::t::r else t::r
theorem Ox{l:List ai}{m s:ai}(h:s∈ins l m):s.1=m.1\/s∈l:=by
 induction l with
 | nil=>unfold ins at h;split at h<;>simp at h;exact .inl (by rw[h])
 | cons t r b =>
  unfold ins at h;split at h
  ·rcases List.mem_cons.1 h with rfl|h
   ·exact .inr sM
   ·exact(b h).imp id (λh=>by simp[h])
  ·split at h
   ·split at h
    ·rcases List.mem_cons.1 h with rfl|h
     ·exact .inl rfl
     ·exact .inr (by simp[h])
    ·exact .inr (by simp[h])
   ·split at h
    ·rcases List.mem_cons.1 h with rfl|h
     ·exact .inl rfl
     ·exact .inr h
    ·exact .inr h
theorem aY.ins{l:List ai}{m:ai}(h:aY l):aY (ins l m):=by
 induction l with
 | nil =>
  unfold Q.ins;split
  ·rename_i h;exact⟨List.pairwise_singleton _ _,λs b=>by simp at b;subst b;exact h⟩
  ·exact aY.nil
 | cons t r j =>
  unfold Q.ins;split
  ·rename_i hg;refine⟨List.pairwise_cons.2 ⟨λs b=>?_,(j h.tail).1⟩,λs b=>?_⟩
   ·rcases Ox b with e|b
    ·rw[e];exact hg
    ·exact h.1.head s b
   ·rcases List.mem_cons.1 b with rfl|b
    ·exact h.2 _ sM
    ·exact(j h.tail).2 s b
  ·rename_i hg;split
   ·rename_i he;split
    ·rename_i hc;refine⟨List.pairwise_cons.2 ⟨λs b=>?_,h.1.tail⟩,λs b=>?_⟩
     ·have:=h.1.head s b;rw[he]at this;exact this
     ·rcases List.mem_cons.1 b with rfl|b
      ·exact hc
      ·exact h.2 s (by simp[b])
    ·exact h.tail
   ·rename_i i;split
    ·rename_i hc;have d:=Ex.gt_total (by simpa using hg) i;refine⟨List.pairwise_cons.2 ⟨λs b=>?_,h.1⟩,λs b=>?_⟩
     ·rcases List.mem_cons.1 b with rfl|b
      ·exact d
      ·exact Ex.gt_trans d (h.1.head s b)
     ·rcases List.mem_cons.1 b with rfl|b
      ·exact hc
      ·exact h.2 s b
    ·exact h
theorem XN{l:List ai}{m:ai}(h:aY l)(e:Ex):cf (ins l m) e=cf l e+if m.1.nat=true/\m.1=e then m.2 else 0:=by
 induction l with
 | nil=>unfold ins;split<;>simp only[bR,jL]<;>grind
 | cons t r b =>
  unfold ins;split
  ·rw[bR,b h.tail,bR];grind
  ·split
   ·rename_i he;have:=(h.2 t sM).2;split<;>simp only[bR]<;>grind
   ·split<;>simp only[bR]<;>grind
def canon (l:List ai):List ai:=l.foldl ins []
theorem FU{l r:List ai}(h:aY r):aY (l.foldl ins r)/\∀e,cf (l.foldl ins r) e=cf r e+if e.nat=true then cf l e else 0:=by
 induction l generalizing r with
 | nil=>exact⟨h,λe=>by simp only[List.foldl_nil,jL];split<;>grind⟩
 | cons t l i =>
  obtain⟨b,d⟩:=i (h.ins (m:=t));refine⟨b,λe=>?_⟩;rw[List.foldl_cons,d,XN h,bR];grind
theorem fK(l:List ai):aY (canon l):=(FU aY.nil).1
theorem ou(l:List ai)(e:Ex):cf (canon l) e=if e.nat=true then cf l e else 0:=by have:=(FU (l:=l) aY.nil).2 e;rw[jL]at this;unfold canon;rw[this];grind
def dI (l:List ai):Prop:=∀t∈l,t.1.nat=true
theorem jA{l:List ai}(h:dI l):Ov (canon l) l:=Qg λe=>by
 rw[ou];split
 ·rfl
 ·rename_i b;exact(oQ λt d he=>b (by rw[<-he];exact h t d)).symm
theorem RX{l r:List ai}(h:dI l)(b:aY r)(he:Ov r l):canon l=r:=(fK l).inj b λe=>by rw[(jA h).cf,he.cf]
theorem aY.nat{l:List ai}(h:aY l):dI l:=λt b=>(h.2 t b).2
theorem Jv{l:List ai}(h:aY l):canon l=l:=RX h.nat h (Ov.refl _)
theorem AV{l r:List ai}(h:∀e,e.nat=true->cf l e=cf r e):canon l=canon r:=(fK l).inj (fK r) λe=>by
 rw[ou,ou];split
 ·rename_i he;exact h e he
 ·rfl
theorem Ov.canon{l r:List ai}(h:Ov l r):canon l=canon r:=AV λe _=>h.cf e
end Q
end
section
namespace Q
abbrev Pt:=Rat × Rat × Rat × Rat
def Pt.get (x:Pt) (v:Nat):Rat:=match v with|0=>x.1|1=>x.2.1|2=>x.2.2.1|_=>x.2.2.2
def Pt.put (x:Pt) (v:Nat) (c:Rat):Pt:=match v with|0=>(c,x.2.1,x.2.2.1,x.2.2.2)|1=>(x.1,c,x.2.2.1,x.2.2.2)|2=>(x.1,x.2.1,c,x.2.2.2)|_=>(x.1,x.2.1,x.2.2.1,c)
def lw (x:Pt) (e:Ex):Rat:=x.1^e.1.toNat * x.2.1^e.2.1.toNat * x.2.2.1^e.2.2.1.toNat * x.2.2.2^e.2.2.2.toNat
def ev (x:Pt) (l:List ai):Rat:=Lf (lw x) l
theorem dJ(x:Pt):ev x []=0:=rfl
theorem kU(x:Pt)(t:ai)(l:List ai):ev x (t::l)=t.2*lw x t.1+ev x l:=rfl
theorem qj(x:Pt)(l r:List ai):ev x (l++r)=ev x l+ev x r:=qh _ _ _
theorem mO{l:List ai}(h:dI l)(x:Pt):ev x (canon l)=ev x l:=(jA h) _
theorem ow(x:Rat)(m n:Nat):x^(m+n)=x^m*x^n:=by
 induction n with
 | zero=>simp[Rat.pow_zero]
 | succ n b=>rw[<-Nat.add_assoc,Rat.pow_succ,b,Rat.pow_succ];grind
theorem RY(x:Rat)(m n:Nat):x^(m*n)=(x^m)^n:=by
 induction n with
 | zero=>simp[Rat.pow_zero]
 | succ n b=>rw[Nat.mul_succ,ow,b,Rat.pow_succ]
theorem Hy(x:Pt){e f:Ex}(he:e.nat=true)(hf:f.nat=true):lw x (e.add f)=lw x e*lw x f:=by rw[Ex.nat_iff]at he hf;simp only[lw,Ex.add,Int.toNat_add,he,hf,ow];grind
def bO (c:Rat):Rat:=if c<0 then -c else c
def bL:List ai->Rat
 | []=>0
 | t::l=>bO t.2+bL l
theorem kH(l:List ai):0<=bL l:=by
 induction l with
 | nil=>exact Rat.le_refl
 | cons t l b=>simp only[bL,bO];split<;>grind
theorem zJ{T:Rat}(l:1<=T){m n:Nat}(h:m<=n):0<=T^m/\T^m<=T^n:=by
 obtain⟨d,rfl⟩:=Nat.exists_eq_add_of_le h
 have b:∀k:Nat,1<=T^k:=by
  intro k
  induction k with
  | zero=>rw[Rat.pow_zero];exact Rat.le_refl
  | succ k i =>
   rw[Rat.pow_succ];have:1*T<=T^k*T:=Rat.mul_le_mul_of_nonneg_right i gR;grind
 have j:=b m;have e:=b d;refine⟨gR,?_⟩;rw[ow];have:T^m*1<=T^m*T^d:=Rat.mul_le_mul_of_nonneg_left e gR;grind
def Oy (K:Nat) (e:Ex):Nat:=e.1.toNat+K*(e.2.1.toNat+K*(e.2.2.1.toNat+K*e.2.2.2.toNat))
def Ze (K:Nat) (T:Rat):Pt:=(T,T^K,T^(K*K),T^(K*(K*K)))
theorem Oz(K:Nat)(T:Rat)(e:Ex):lw (Ze K T) e=T^Oy K e:=by simp only[lw,Ze,Oy,Nat.mul_add,ow,<-RY,Nat.mul_assoc];grind
theorem RZ{K:Nat}{e f:Ex}(he:e.nat=true)(hf:f.nat=true)(h:e.gt f=true)(b0:f.1<K)(b1:f.2.1<K)(n:f.2.2.1<K):Oy K f<Oy K e:=by
 rw[Ex.gt_iff]at h;rw[Ex.nat_iff]at he hf;obtain⟨a,b,c,d⟩:=e;obtain⟨a',m,c',d'⟩:=f;simp only[Oy]at *
 have key:∀p q p' j:Nat,p' < K->j < q->p'+K*j < p+K*q:=by intro p q p' j l i;have:K*(j+1)<=K*q:=Nat.mul_le_mul_left K i;rw[Nat.mul_succ]at this;omega
 have key2:∀p q p' j:Nat,p' < p->j=q->p'+K*j < p+K*q:=by intro p q p' j l i;rw[i];omega
 rcases h with h|⟨h,i⟩
 ·exact key _ _ _ _ oM (key _ _ _ _ oM (key _ _ _ _ oM oM))
 ·rcases i with i|⟨i,k⟩
  ·exact key _ _ _ _ oM (key _ _ _ _ oM (key2 _ _ _ _ oM oM))
  ·rcases k with k|⟨k,o⟩
   ·exact key _ _ _ _ oM (key2 _ _ _ _ oM (by rw[h,i]))
   ·exact key2 _ _ _ _ oM (by rw[h,i,k])
theorem CF{K:Nat}{T:Rat}(d:1<=T)(N:Nat):∀l:List ai,(∀t∈l,Oy K t.1<=N)->- (bL l*T^N)<=ev (Ze K T) l/\ev (Ze K T) l<=bL l*T^N
 | [],_=>by simp only[dJ,bL];constructor<;>grind
 | t::l,h=>by
  obtain⟨j,k⟩:=CF d N l (λs i=>h s (by simp[i]));obtain⟨b,e⟩:=zJ d (h t sM);rw[kU,Oz];simp only[bL];have m:bO t.2*T^Oy K t.1<=bO t.2*T^N:=Rat.mul_le_mul_of_nonneg_left e (by unfold bO;split<;>grind)
  have n:- (bO t.2*T^Oy K t.1)<=t.2*T^Oy K t.1/\t.2*T^Oy K t.1<=bO t.2*T^Oy K t.1:=by
   unfold bO;split
   ·have:0<=(-t.2)*T^Oy K t.1:=Rat.mul_nonneg gR b;constructor<;>grind
   ·have:0<=t.2*T^Oy K t.1:=Rat.mul_nonneg gR b;constructor<;>grind
  constructor<;>grind
theorem FV:∀l:List ai,∃K:Nat,∀t∈l,t.1.1<K/\t.1.2.1<K/\t.1.2.2.1<K
 | []=>⟨0,λ_ h=>by cases h⟩
 | t::l=>by
  obtain⟨K,h⟩:=FV l;refine⟨K+t.1.1.toNat+t.1.2.1.toNat+t.1.2.2.1.toNat+1,λs b=>?_⟩;rcases List.mem_cons.1 b with rfl|b
  ·omega
  ·have:=h s b;omega
theorem Zf{t:ai}{l:List ai}(h:aY (t::l)):∃x,ev x (t::l)≠0:=by
 obtain⟨K,b⟩:=FV (t::l);have hc:=(h.2 t sM).1;have p:=kH l;have i:0<bO t.2:=by unfold bO;split<;>grind
 have e:0<=(bO t.2)⁻¹:=Rat.le_of_lt (Rat.inv_pos.2 i);obtain⟨T,q⟩:∃T,T=bL l*(bO t.2)⁻¹+1:=⟨_,rfl⟩;have m:1<=T:=by have:=Rat.mul_nonneg p e;grind
 have hb:bL l<bO t.2*T:=by
  have r:(bO t.2)⁻¹*bO t.2=1:=Rat.inv_mul_cancel _ gR;have n:bO t.2*T=bL l+bO t.2:=by rw[q];grind
  rw[n];grind
 refine⟨Ze K T,λk=>?_⟩;rw[kU,Oz]at k;obtain⟨N,o⟩:∃N,N=Oy K t.1:=⟨_,rfl⟩;rw[<-o]at k
 cases N with
 | zero =>
  cases l with
  | nil=>rw[dJ,Rat.pow_zero]at k;grind
  | cons s l =>
   have:=RZ (h.2 t sM).2 (h.2 s sM).2 (h.1.head s sM) (b s sM).1 (b s sM).2.1 (b s sM).2.2;omega
 | succ N =>
  have u:=CF (K:=K) m N l (λs j=>by
   have:=RZ (h.2 t sM).2 (h.2 s (by simp[j])).2 (h.1.head s j) (b s (by simp[j])).1 (b s (by simp[j])).2.1 (b s (by simp[j])).2.2
   omega)
  have hp:0<T^N:=Rat.pow_pos gR;have d:bL l*T^N<bO t.2*T*T^N:=Rat.mul_lt_mul_of_pos_right hb hp;rw[Rat.pow_succ]at k;unfold bO at d;split at d<;>grind
theorem lK{l r:List ai}(e:aY l)(j:aY r)(h:∀x,ev x l=ev x r):l=r:=by
 have i:dI (l++Hu r):=λt b=>by
  rcases List.mem_append.1 b with b|b
  ·exact e.nat t b
  ·simp only[Hu,List.mem_map]at b;obtain⟨s,m,rfl⟩:=b;exact j.nat s m
 have hz:∀x,ev x (canon (l++Hu r))=0:=λx=>by have:=h x;rw[mO i,qj];unfold ev at *;rw[Hw];grind
 have d:canon (l++Hu r)=[]:=by
  cases hc:canon (l++Hu r)with
  | nil=>rfl
  | cons t q =>
   obtain⟨x,k⟩:=Zf (by rw[<-hc];exact fK _);rw[<-hc]at k;exact absurd (hz x) k
 refine e.eqv_inj j λf=>?_;have:=jA i f;rw[d,qh,Hw,Mv]at this;grind
theorem Qh{l r:List ai}(b:dI l)(d:aY r)(h:∀x,ev x l=ev x r):canon l=r :=
 lK (fK _) d λx=>by rw[mO b,h]
end Q
end
section
namespace Q
structure Sz where
 D:Nat
 B:Nat
 E:Nat
 N:Nat
def Dv (D:Nat) (c:Rat):Prop:=∃k:Int,c*(D:Rat)=(k:Rat)
structure Bd (s:Sz) (l:List ai):Prop where
 n:l.length<=s.N
 e:∀t∈l,-(s.E:Int)<=t.1.1/\t.1.1<=s.E/\-(s.E:Int)<=t.1.2.1/\t.1.2.1<=s.E/\-(s.E:Int)<=t.1.2.2.1/\t.1.2.2.1<=s.E/\-(s.E:Int)<=t.1.2.2.2/\t.1.2.2.2<=s.E
 d:∀t∈l,Dv s.D t.2
 b:bL l<=(s.B:Rat)
def Sz.add (s t:Sz):Sz:=⟨Nat.lcm s.D t.D,s.B+t.B,max s.E t.E,s.N+t.N⟩
def Sz.mul (s t:Sz):Sz:=⟨s.D*t.D,s.B*t.B,s.E+t.E,s.N*t.N⟩
def Sz.ok (s:Sz):Prop:=0<s.D/\s.D<65536/\s.B<2^1000/\s.E<1000000/\s.N<1000000
instance (s:Sz):Decidable s.ok:=by unfold Sz.ok;infer_instance
def Sz.le (s t:Sz):Prop:=s.D∣t.D/\s.B<=t.B/\s.E<=t.E/\s.N<=t.N
instance (s t:Sz):Decidable (s.le t):=by unfold Sz.le;infer_instance
theorem Dv.dvd{D b:Nat}{c:Rat}(h:Dv D c)(hd:D∣b):Dv b c:=by obtain⟨k,d⟩:=h;obtain⟨m,rfl⟩:=hd;exact⟨k*m,by rw[Rat.intCast_mul,iN,Rat.natCast_mul];grind⟩
theorem Dv.add{D:Nat}{c d:Rat}(h:Dv D c)(b:Dv D d):Dv D (c+d):=by obtain⟨k,e⟩:=h;obtain⟨m,hm⟩:=b;exact⟨k+m,by rw[Rat.intCast_add];grind⟩
theorem Dv.mul{D b:Nat}{c d:Rat}(h:Dv D c)(e:Dv b d):Dv (D*b) (c*d):=by obtain⟨k,i⟩:=h;obtain⟨m,hm⟩:=e;exact⟨k*m,by rw[Rat.intCast_mul,Rat.natCast_mul];grind⟩
theorem Dv.neg{D:Nat}{c:Rat}(h:Dv D c):Dv D (-c):=by obtain⟨k,b⟩:=h;exact⟨-k,by rw[Rat.intCast_neg];grind⟩
theorem Dv.zero(D:Nat):Dv D 0:=⟨0,sM⟩
theorem Dv.int(D:Nat)(k:Int):Dv D k:=⟨k*D,by rw[Rat.intCast_mul,iN]⟩
theorem fo(c:Rat):0<=bO c:=by unfold bO;split<;>grind
theorem CG(c d:Rat):bO (c+d)<=bO c+bO d:=by unfold bO;split<;>split<;>split<;>grind
theorem CJ(c:Rat):bO (-c)=bO c:=by unfold bO;split<;>split<;>grind
theorem vQ(c:Rat):c<0\/0<=c:=gR
theorem oC{c:Rat}(h:c<0):bO c=-c:=by unfold bO;rw[if_pos h]
theorem bK{c:Rat}(h:0<=c):bO c=c:=by unfold bO;rw[if_neg gR]
theorem jB(c d:Rat):bO (c*d)=bO c*bO d:=by
 rcases vQ c with hc|hc<;>rcases vQ d with hd|hd
 ·have:=Rat.mul_pos (gR:0 < -c) (gR:0 < -d);have e:-c*-d=c*d:=gR;rw[e]at this;rw[oC hc,oC hd,bK (Rat.le_of_lt this),e]
 ·have:=Rat.mul_nonneg (gR:0<=-c) hd;have e:-c*d=-(c*d):=gR;rw[e]at this;rw[oC hc,bK hd,e,<-CJ,bK this]
 ·have:=Rat.mul_nonneg hc (gR:0<=-d);have e:c*-d=-(c*d):=gR;rw[e]at this;rw[bK hc,oC hd,e,<-CJ,bK this]
 ·rw[bK hc,bK hd,bK (Rat.mul_nonneg hc hd)]
theorem qY(l r:List ai):bL (l++r)=bL l+bL r:=by
 induction l with
 | nil=>simp only[List.nil_append,bL];grind
 | cons t l b=>simp only[List.cons_append,bL,b];grind
theorem rZ{l:List ai}{t:ai}(h:t∈l):bO t.2<=bL l:=by
 induction l with
 | nil=>cases h
 | cons s l b =>
  simp only[bL];rcases List.mem_cons.1 h with rfl|h
  ·have:=kH l;grind
  ·have:=b h;have:=fo s.2;grind
theorem Hz{l:List ai}{g:ai->ai}{c:Rat}(h:∀t∈l,bO (g t).2<=bO t.2*c):bL (l.map g)<=bL l*c:=by
 induction l with
 | nil=>simp only[List.map_nil,bL];grind
 | cons t l d =>
  have:=h t sM;have:=d (λs b=>h s (by simp[b]));simp only[List.map_cons,bL];grind
theorem Bd.nil(s:Sz):Bd s []:=⟨Nat.zero_le _,(λt h=>absurd h sM),(λt h=>absurd h sM),by simp only[bL];exact Rat.natCast_nonneg⟩
theorem Bd.append{s t:Sz}{l r:List ai}(h:Bd s l)(j:Bd t r):Bd (s.add t) (l++r) where
 n:=by have:=h.n;have:=j.n;simp only[List.length_append,Sz.add];omega
 e:=λx i=>by
  simp only[Sz.add];rcases List.mem_append.1 i with i|i
  ·have:=h.e x i;omega
  ·have:=j.e x i;omega
 d:=λx i=>by
  rcases List.mem_append.1 i with i|i
  ·exact(h.d x i).dvd (Nat.dvd_lcm_left _ _)
  ·exact(j.d x i).dvd (Nat.dvd_lcm_right _ _)
 b:=by rw[qY];simp only[Sz.add];rw[Rat.natCast_add];have:=h.b;have:=j.b;grind
theorem Bd.sub{s:Sz}{l r:List ai}(h:Bd s l)(i:r.Sublist l):Bd s r where
 n:=Nat.le_trans i.length_le h.n
 e:=λx j=>h.e x (i.subset j)
 d:=λx j=>h.d x (i.subset j)
 b:=by
  refine Rat.le_trans ?_ h.b;clear h
  induction i with
  | slnil=>exact Rat.le_refl
  | cons t _ k=>have:=fo t.2;simp only[bL];grind
  | cons_cons t _ k=>simp only[bL];grind
theorem MB(l:List ai)(m:ai):(ins l m).length<=l.length+1:=by
 induction l with
 | nil=>unfold ins;split<;>simp
 | cons t r b=>unfold ins;split<;>(try split)<;>(try split)<;>simp<;>omega
theorem CK(l:List ai)(m:ai):bL (ins l m)<=bL l+bO m.2:=by
 have:=fo m.2
 induction l with
 | nil=>unfold ins;split<;>simp only[bL]<;>grind
 | cons t r b =>
  have:=CG m.2 t.2;have:=fo t.2;unfold ins;split<;>(try split)<;>(try split)<;>simp only[bL]<;>grind
theorem XO{D:Nat}{l:List ai}{m:ai}(h:∀t∈l,Dv D t.2)(hm:Dv D m.2):∀t∈ins l m,Dv D t.2:=by
 induction l with
 | nil=>unfold ins;split<;>simp;exact hm
 | cons t r d =>
  unfold ins;split
  ·intro s b;rcases List.mem_cons.1 b with rfl|b
   ·exact h _ sM
   ·exact d (λs b=>h s (by simp[b])) s b
  ·split
   ·split
    ·intro s b;rcases List.mem_cons.1 b with rfl|b
     ·exact hm.add (h t sM)
     ·exact h s (by simp[b])
    ·intro s b;exact h s (by simp[b])
   ·split
    ·intro s b;rcases List.mem_cons.1 b with rfl|b
     ·exact hm
     ·exact h s b
    ·exact h
theorem Sa{p:Ex->Prop}{l:List ai}{m:ai}(h:∀t∈l,p t.1)(hm:p m.1):∀t∈ins l m,p t.1:=λt b=>by
 rcases Ox b with e|b
 ·rw[e];exact hm
 ·exact h t b
theorem CL{p:Ex->Prop}{D:Nat}:∀{l r:List ai},(∀t∈l,p t.1)->(∀t∈r,p t.1)->(∀t∈l,Dv D t.2)->(∀t∈r,Dv D t.2) ->
  (l.foldl ins r).length<=r.length+l.length/\bL (l.foldl ins r)<=bL r+bL l/\(∀t∈l.foldl ins r,p t.1)/\∀t∈l.foldl ins r,Dv D t.2
 | [],r,_,h2,_,h4=>⟨by simp,by simp only[List.foldl_nil,bL];grind,h2,h4⟩
 | m::l,r,h1,h2,h3,h4=>by
  have:=CL (l:=l) (r:=ins r m) (λt b=>h1 t (by simp[b])) (Sa h2 (h1 m sM)) (λt b=>h3 t (by simp[b])) (XO h4 (h3 m sM));have d:=MB r m;have e:=CK r m;refine⟨?_,?_,this.2.2.1,this.2.2.2⟩
  ·simp only[List.foldl_cons,List.length_cons];omega
  ·have:=this.2.1;simp only[List.foldl_cons,bL];grind
theorem Bd.canon{s:Sz}{l:List ai}(h:Bd s l):Bd s (canon l):=by
 have:=CL (l:=l) (r:=[]) (p:=λe=>-(s.E:Int)<=e.1/\e.1<=s.E/\-(s.E:Int)<=e.2.1/\e.2.1<=s.E/\-(s.E:Int)<=e.2.2.1/\e.2.2.1<=s.E/\-(s.E:Int)<=e.2.2.2/\e.2.2.2<=s.E) (D:=s.D)
  h.e (λ_ h=>by cases h) h.d (λ_ h=>by cases h)
 refine⟨Nat.le_trans (by simpa[Q.canon]using this.1) h.n,this.2.2.1,this.2.2.2,Rat.le_trans this.2.1 ?_⟩;have:=h.b;simp only[bL];grind
def mulT (s t:ai):ai:=(s.1.add t.1,s.2*t.2)
def prods (l r:List ai):List ai:=l.flatMap λs=>r.map (mulT s)
theorem zK(r:List ai):prods [] r=[]:=rfl
theorem kI(s:ai)(l r:List ai):prods (s::l) r=r.map (mulT s)++prods l r:=rfl
theorem dI.append{l r:List ai}(h:dI l)(d:dI r):dI (l++r):=λt b=>by
 rcases List.mem_append.1 b with b|b
 ·exact h t b
 ·exact d t b
theorem dI.mulT{s:ai}{r:List ai}(b:s.1.nat=true)(h:dI r):dI (r.map (mulT s)):=λt d=>by obtain⟨u,hu,rfl⟩:=List.mem_map.1 d;exact Ex.nat_add b (h u hu)
theorem dI.tail{s:ai}{l:List ai}(h:dI (s::l)):dI l:=λt b=>h t (by simp[b])
theorem dI.head{s:ai}{l:List ai}(h:dI (s::l)):s.1.nat=true:=h s sM
theorem dI.nil:dI []:=λ_ h=>by cases h
theorem dI.prods:∀{l r:List ai},dI l->dI r->dI (prods l r)
 | [],_,_,_=>dI.nil
 | _::_,_,h,h'=>(dI.mulT h.head h').append (dI.prods h.tail h')
theorem Jw{s:ai}{r:List ai}(x:Pt)(b:s.1.nat=true)(h:dI r):ev x (r.map (mulT s))=s.2*lw x s.1*ev x r:=by
 induction r with
 | nil=>simp only[List.map_nil,dJ];grind
 | cons t r d=>rw[List.map_cons,kU,kU,d h.tail];simp only[mulT];rw[Hy x b h.head];grind
theorem Jy:∀{l r:List ai}(x:Pt),dI l->dI r->ev x (prods l r)=ev x l*ev x r
 | [],_,x,_,_=>by rw[zK,dJ];grind
 | s::l,r,x,h,h'=>by rw[kI,qj,Jw x h.head h',Jy x h.tail h',kU];grind
theorem Fv(s:ai)(r:List ai):bL (r.map (mulT s))=bO s.2*bL r:=by
 induction r with
 | nil=>simp only[List.map_nil,bL];grind
 | cons t r b=>simp only[List.map_cons,bL,b,mulT,jB];grind
theorem CO(l r:List ai):bL (prods l r)=bL l*bL r:=by
 induction l with
 | nil=>simp only[zK,bL];grind
 | cons s l b=>rw[kI,qY,b,Fv];simp only[bL];grind
theorem xZ(l r:List ai):(prods l r).length=l.length*r.length:=by
 induction l with
 | nil=>simp[zK]
 | cons s l b=>rw[kI];simp[b,Nat.add_mul];omega
theorem kV{l r:List ai}{t:ai}(h:t∈prods l r):∃a∈l,∃b∈r,t=mulT a b:=by simp only[prods,List.mem_flatMap,List.mem_map]at h;obtain⟨a,ha,b,hb,e⟩:=h;exact⟨a,ha,b,hb,e.symm⟩
theorem pM{a b c d:Rat}(e:a<=b)(h:c<=d)(i:0<=a)(j:0<=d):a*c<=b*d:=by have k:a*c<=a*d:=Rat.mul_le_mul_of_nonneg_left h i;have l:a*d<=b*d:=Rat.mul_le_mul_of_nonneg_right e j;grind
theorem Bd.prods{s t:Sz}{l r:List ai}(h:Bd s l)(i:Bd t r):Bd (s.mul t) (prods l r) where
 n:=by rw[xZ];exact Nat.mul_le_mul h.n i.n
 e:=λx j=>by obtain⟨a,ha,b,hb,rfl⟩:=kV j;have:=h.e a ha;have:=i.e b hb;simp only[mulT,Ex.add,Sz.mul];omega
 d:=λx j=>by obtain⟨a,ha,b,hb,rfl⟩:=kV j;exact(h.d a ha).mul (i.d b hb)
 b:=by rw[CO];simp only[Sz.mul];rw[Rat.natCast_mul];exact pM h.b i.b (kH _) (Rat.natCast_nonneg)
end Q
end
section
namespace Q
abbrev e0:Ex:=(0,0,0,0)
def cK (c:Rat):List ai:=if c=0 then []else [(e0,c)]
def AX (v:Nat):Ex:=Ex.put e0 v 1
def Jz (v:Nat):List ai:=[(AX v,1)]
def mP (p q:List ai):List ai:=canon (p++q)
def bY (p:List ai) (c:Rat):List ai:=if c=0 then []else p.map λt=>(t.1,t.2*c)
def dL (p q:List ai):List ai:=mP p (bY q (-1))
def aO (p q:List ai):List ai:=canon (prods p q)
def nC (p:List ai):Nat->List ai
 | 0=>cK 1
 | n+1=>aO (nC p n) p
def aH (p:List ai) (v:Nat):Int:=p.foldl (λd t=>max d (t.1.get v)) (-1)
def aG (p:List ai) (v:Nat) (n:Int):List ai:=(p.filter λt=>t.1.get v=n).map λt=>(t.1.put v 0,t.2)
def aB (p:List ai) (v:Nat):List (List ai):=(List.range (aH p v+1).toNat).map λn:Nat=>aG p v n
def iw (p:List ai) (v:Nat) (i:Int):List ai:=p.map λt=>(t.1.put v (t.1.get v+i),t.2)
def fromL (v:Nat):Int->List (List ai)->List ai
 | _,[]=>[]
 | i,p::l=>iw p v i++fromL v (i+1) l
def uI (l:List (List ai)) (v:Nat):List ai:=canon (fromL v 0 l)
def dN (p:List ai) (v:Nat):List ai:=(p.filter λt=>0<t.1.get v).map λt=>(t.1.put v (t.1.get v-1),t.2*(t.1.get v:Rat))
def evalL (p:List ai) (v:Nat) (c:Rat):List ai:=p.map λt=>(t.1.put v 0,t.2*c^(t.1.get v).toNat)
def yc (p:List ai) (v:Nat) (c:Rat):List ai:=canon (evalL p v c)
def zao (p:List ai) (v:Nat) (b:List ai):List ai:=(aB p v).foldr (λc out=>mP (aO out b) c) []
theorem aY.const(c:Rat):aY (cK c):=by
 unfold cK;split
 ·exact aY.nil
 ·rename_i h;exact⟨List.pairwise_cons.2 ⟨λ_ h=>(by cases h),List.Pairwise.nil⟩,λt b=>by simp at b;subst b;exact⟨h,rfl⟩⟩
theorem Qi(v:Nat):(AX v).nat=true:=by rcases v with _|_|_|v<;>rfl
theorem aY.var(v:Nat):aY (Jz v) :=
 ⟨List.pairwise_cons.2 ⟨λ_ h=>(by cases h),List.Pairwise.nil⟩,λt b=>by simp[Jz]at b;subst b;exact⟨(by decide:(1:Rat)≠0),Qi v⟩⟩
theorem aY.add(p q:List ai):aY (mP p q):=fK _
theorem aY.mul(p q:List ai):aY (aO p q):=fK _
theorem aY.sub(p q:List ai):aY (dL p q):=fK _
theorem jr{a b:Rat}(ha:a≠0)(hb:b≠0):a*b≠0:=by
 intro h;rcases Rat.mul_eq_zero.1 h with h|h
 ·exact ha h
 ·exact hb h
theorem Ht.map{l:List ai}{g:ai->ai}(h:Ht l)(hg:∀s∈l,∀t∈l,s.1.gt t.1=true->(g s).1.gt (g t).1=true):Ht (l.map g):=by unfold Ht at *;rw[List.pairwise_map];exact h.imp_of_mem λb d=>hg _ b _ d
theorem aY.scale{p:List ai}(h:aY p)(c:Rat):aY (bY p c):=by
 unfold bY;split
 ·exact aY.nil
 ·rename_i hc;refine⟨h.1.map λ_ _ _ _ h=>h,λt d=>?_⟩;obtain⟨s,b,rfl⟩:=List.mem_map.1 d;exact⟨jr (h.2 s b).1 hc,(h.2 s b).2⟩
theorem aY.pow(p:List ai):∀n,aY (nC p n)
 | 0=>aY.const _
 | _+1=>fK _
theorem Ex.put_nat{e:Ex}(h:e.nat=true)(v:Nat){x:Int}(b:0<=x):(e.put v x).nat=true:=by rw[Ex.nat_iff]at *;rcases v with _|_|_|v<;>simp only[Ex.put]<;>omega
theorem Ex.get_put(e:Ex)(v:Nat)(x:Int):(e.put v x).get v=x:=by rcases v with _|_|_|v<;>rfl
theorem Ex.put_get(e:Ex)(v:Nat):e.put v (e.get v)=e:=by rcases v with _|_|_|v<;>rfl
theorem Ex.put_put(e:Ex)(v:Nat)(x y:Int):(e.put v x).put v y=e.put v y:=by rcases v with _|_|_|v<;>rfl
theorem Ex.gt_put_same{e f:Ex}(v:Nat)(h:e.gt f=true)(hv:e.get v=f.get v)(x:Int):(e.put v x).gt (f.put v x)=true:=by rw[Ex.gt_iff]at *;obtain⟨a,b,c,d⟩:=e;obtain⟨a',i,c',d'⟩:=f;rcases v with _|_|_|v<;>simp only[Ex.put,Ex.get]at h hv ⊢<;>subst hv<;>simp only[Int.lt_irrefl,and_false,or_false,false_or,true_and]at h ⊢<;>omega
theorem Ht.sub{l r:List ai}(h:Ht l)(b:r.Sublist l):Ht r:=List.Pairwise.sublist b h
theorem aY.sublist{l r:List ai}(h:aY l)(b:r.Sublist l):aY r:=⟨h.1.sub b,λt d=>h.2 t (b.subset d)⟩
theorem aY.coeff{p:List ai}(h:aY p)(v:Nat)(n:Int):aY (aG p v n):=by
 unfold aG;have d:=h.sublist (List.filter_sublist (l:=p) (p:=λt=>t.1.get v=n));refine⟨d.1.map λs b t i e=>Ex.gt_put_same v e ?_ 0,λt i=>?_⟩
 ·have j:=(List.mem_filter.1 b).2;have k:=(List.mem_filter.1 i).2;simp only[decide_eq_true_eq]at j k;rw[j,k]
 ·obtain⟨s,b,rfl⟩:=List.mem_map.1 i;exact⟨(d.2 s b).1,Ex.put_nat (d.2 s b).2 v (Int.le_refl _)⟩
theorem mQ(x:Pt)(c:Rat):ev x (cK c)=c:=by
 unfold cK;split
 ·rename_i h;rw[dJ,h]
 ·rw[kU,dJ];simp[lw];grind
theorem XP(x:Pt)(v:Nat):ev x (Jz v)=x.get v:=by
 rw[Jz,kU,dJ]
 have:lw x (AX v)=x.get v:=by rcases v with _|_|_|v<;>simp[AX,Ex.put,Pt.get,lw,Rat.pow_succ,Rat.pow_zero]
 rw[this];grind
theorem ev_add(x:Pt){p q:List ai}(h:dI p)(b:dI q):ev x (mP p q)=ev x p+ev x q:=by rw[mP,mO (h.append b),qj]
theorem ev_scale(x:Pt)(p:List ai)(c:Rat):ev x (bY p c)=ev x p*c:=by
 unfold bY;split
 ·rename_i h;rw[dJ,h];grind
 ·unfold ev;rw[wZ _ _ (λe=>c*lw x e) p (λt _=>gR),jK];grind
theorem ev_sub(x:Pt){p q:List ai}(h:dI p)(b:aY q):ev x (dL p q)=ev x p-ev x q:=by rw[dL,ev_add x h (b.scale _).nat,ev_scale];grind
theorem ev_mul(x:Pt){p q:List ai}(h:dI p)(b:dI q):ev x (aO p q)=ev x p*ev x q:=by rw[aO,mO (h.prods b),Jy x h b]
theorem ev_pow(x:Pt){p:List ai}(h:dI p):∀n,ev x (nC p n)=ev x p^n
 | 0=>by rw[nC,mQ,Rat.pow_zero]
 | n+1=>by rw[nC,ev_mul x (aY.pow p n).nat h,ev_pow x h n,Rat.pow_succ]
theorem Cb(x:Pt)(e:Ex)(v:Nat)(c:Rat):lw (x.put v c) e=lw x (e.put v 0)*c^(e.get v).toNat:=by rcases v with _|_|_|v<;>simp only[Pt.put,Ex.put,Ex.get,lw,Int.toNat_zero,Rat.pow_zero]<;>grind
theorem JA(x:Pt)(e:Ex)(v:Nat)(n:Int):lw x (e.put v n)=lw x (e.put v 0)*x.get v^n.toNat:=by rcases v with _|_|_|v<;>simp only[Pt.get,Ex.put,lw,Int.toNat_zero,Rat.pow_zero]<;>grind
theorem dI.evalL{p:List ai}(h:dI p)(v:Nat)(c:Rat):dI (evalL p v c):=λt d=>by obtain⟨s,b,rfl⟩:=List.mem_map.1 d;exact Ex.put_nat (h s b) v (Int.le_refl _)
theorem Sb(x:Pt)(p:List ai)(v:Nat)(c:Rat):ev x (evalL p v c)=ev (x.put v c) p:=by unfold ev evalL;exact wZ _ _ _ p λt _=>by rw[Cb];grind
theorem ev_eval(x:Pt){p:List ai}(h:dI p)(v:Nat)(c:Rat):ev x (yc p v c)=ev (x.put v c) p:=by rw[yc,mO (h.evalL v c),Sb]
theorem iO(f:ai->Int):∀(p:List ai)(d:Int),d<=p.foldl (λd t=>max d (f t)) d/\(∀t∈p,f t<=p.foldl (λd t=>max d (f t)) d)/\(p.foldl (λd t=>max d (f t)) d=d\/∃t∈p,f t=p.foldl (λd t=>max d (f t)) d)
 | [],d=>⟨Int.le_refl _,(λ_ h=>by cases h),Or.inl rfl⟩
 | t::p,d=>by
  obtain⟨j,i,b⟩:=iO f p (max d (f t));refine⟨by simp only[List.foldl_cons];omega,λs e=>?_,?_⟩
  ·simp only[List.foldl_cons];rcases List.mem_cons.1 e with rfl|e
   ·omega
   ·exact i s e
  ·simp only[List.foldl_cons];rcases b with b|⟨s,e,b⟩
   ·rw[b];rcases Int.le_total d (f t)with h|h
    ·exact Or.inr ⟨t,sM,oM⟩
    ·exact Or.inl oM
   ·exact Or.inr ⟨s,by simp[e],b⟩
theorem vR(p:List ai)(v:Nat):-1<=aH p v:=(iO (λt=>t.1.get v) p (-1)).1
theorem fw{p:List ai}{t:ai}(h:t∈p)(v:Nat):t.1.get v<=aH p v:=(iO (λt=>t.1.get v) p (-1)).2.1 t h
theorem lU{p:List ai}(h:p≠[])(b:dI p)(v:Nat):∃t∈p,t.1.get v=aH p v:=by
 rcases(iO (λt=>t.1.get v) p (-1)).2.2 with h1|h1
 ·exfalso
  cases p with
  | nil=>exact h rfl
  | cons t p =>
   have:=fw (p:=t::p) (t:=t) sM v;have:=Ex.nat_get (b t sM) v;unfold aH at *;omega
 ·exact h1
theorem bv(p:List ai)(v:Nat):(aB p v).length=(aH p v+1).toNat:=by simp[aB]
theorem fC(f:Ex->Rat)(p:List ai)(v:Nat)(n:Int):Lf f (aG p v n)=Lf (λe=>if e.get v=n then f (e.put v 0)else 0) p:=by
 unfold aG
 induction p with
 | nil=>rfl
 | cons t p b =>
  simp only[List.filter_cons];split
  ·rename_i h;simp only[decide_eq_true_eq]at h;simp only[List.map_cons,pJ,b,if_pos h]
  ·rename_i h;simp only[decide_eq_true_eq]at h;simp only[pJ,b,if_neg h];grind
def bF (f:Nat->Rat):Nat->Rat
 | 0=>0
 | n+1=>bF f n+f n
theorem dO{f g:Nat->Rat}:∀{n:Nat},(∀i,i<n->f i=g i)->bF f n=bF g n
 | 0,_=>rfl
 | n+1,h=>by rw[bF,bF,dO (n:=n) (λi b=>h i (by omega)),h n (by omega)]
theorem yf(f g:Nat->Rat):∀n,bF (λi=>f i+g i) n=bF f n+bF g n
 | 0=>by simp only[bF];grind
 | n+1=>by simp only[bF,yf f g n];grind
theorem yg{f:Nat->Rat}{k:Nat}:∀{n:Nat},k<n->(∀i,i<n->i≠k->f i=0)->bF f n=f k
 | 0,h,_=>by omega
 | n+1,h,h'=>by
  rw[bF];by_cases e:k=n
  ·subst e;have:bF f k=bF (λ_=>0) k:=dO λi j=>h' i oM oM
   have z:∀m,bF (λ_=>(0:Rat)) m=0:=by intro m;induction m with
    | zero=>rfl
    | succ m l=>simp only[bF,l];grind
   rw[this,z];grind
  ·rw[yg (n:=n) oM (λi j b=>h' i oM b),h' n oM (λd=>e d.symm)];grind
theorem CP(x:Pt)(v:Nat)(c:Rat)(N:Nat):∀{p:List ai},dI p->(∀t∈p,t.1.get v<N)->ev (x.put v c) p=bF (λn=>ev x (aG p v n)*c^n) N
 | [],_,_=>by
  have:∀m,bF (λn=>ev x (aG [] v n)*c^n) m=0:=by
   intro m;induction m with
   | zero=>rfl
   | succ m d=>simp only[bF,d];show(0:Rat)+(0:Rat)*_=0;grind
  rw[this];rfl
 | t::p,h,hN=>by
  have j:=Ex.nat_get h.head v;have l:=hN t sM;rw[kU,CP x v c N h.tail (λs b=>hN s (by simp[b])),Cb]
  have e:∀n:Nat,ev x (aG (t::p) v n)*c^n=(if t.1.get v=n then t.2*lw x (t.1.put v 0)else 0)*c^n+ev x (aG p v n)*c^n:=by intro n;unfold ev;rw[fC,fC,pJ];split<;>grind
  rw[dO (λi _=>e i),yf,yg (f:=λn:Nat=>(if t.1.get v=(n:Int)then t.2*lw x (t.1.put v 0)else 0)*c^n) (k:=(t.1.get v).toNat) oM (λi _ o=>by rw[if_neg oM];grind),if_pos oM];grind
theorem H5{p:List ai}{v:Nat}:∀t∈p,t.1.get v<((aH p v+1).toNat:Int):=λt b=>by have:=fw b v;have:=vR p v;omega
def zak (b:List ai) (l:List (List ai)):List ai:=l.foldr (λc out=>mP (aO out b) c) []
theorem gQ{p c:List ai}{v:Nat}(h:c∈aB p v):∃n:Nat,c=aG p v n:=by obtain⟨n,_,e⟩:=List.mem_map.1 h;exact⟨n,e.symm⟩
theorem jI{p:List ai}{v n:Nat}(h:n<(aH p v+1).toNat):(aB p v).getD n []=aG p v n:=by simp[aB,jD,h]
theorem Sc(x:Pt){p:List ai}(h:dI p)(v i:Nat):ev x (iw p v i)=ev x p*x.get v^i:=by
 unfold ev iw
 rw[wZ _ _ (λe=>x.get v^i*lw x e) p (λt b=>by
  have:=Ex.nat_get (h t b) v;rw[JA x t.1 v (t.1.get v+i),Int.toNat_add this (Int.natCast_nonneg i),ow];have e:=JA x t.1 v (t.1.get v);rw[Ex.put_get]at e;simp only[Int.toNat_natCast]
  rw[e];grind),jK];grind
theorem dI.shift{p:List ai}(h:dI p)(v:Nat){i:Int}(e:0<=i):dI (iw p v i):=λt d=>by obtain⟨s,b,rfl⟩:=List.mem_map.1 d;exact Ex.put_nat (h s b) v (by have:=Ex.nat_get (h s b) v;omega)
theorem dI.fromL(v:Nat):∀{l:List (List ai)}{i:Int},0<=i->(∀c∈l,dI c)->dI (fromL v i l)
 | [],_,_,_=>dI.nil
 | c::l,i,hi,h=>((h c (by simp)).shift v hi).append (dI.fromL v (by omega) (λc hc=>h c (by simp[hc])))
theorem JB(x:Pt)(v:Nat):∀{l:List (List ai)}{i:Nat},(∀c∈l,dI c)->ev x (fromL v i l)=bF (λn=>ev x (l.getD n [])*x.get v^n) l.length*x.get v^i
 | [],i,_=>by simp only[fromL,dJ,List.length_nil,bF];grind
 | c::l,i,h=>by
  have e:((i:Int)+1)=((i+1:Nat):Int):=oM;rw[fromL,qj,Sc x (h c sM),e,JB x v (λc hc=>h c (by simp[hc]))]
  have key:∀n:Nat,bF (λi=>ev x ((c::l).getD i [])*x.get v^i) (n+1)=bF (λi=>ev x (l.getD i [])*x.get v^i) n*x.get v+ev x c:=by
   intro n
   induction n with
   | zero=>simp only[bF,List.getD_cons_zero,Rat.pow_zero];grind
   | succ n b =>
    rw[bF,b];simp only[bF,List.getD_cons_succ,Rat.pow_succ];grind
  rw[List.length_cons,key,Rat.pow_succ];grind
theorem H7(x:Pt)(v:Nat){l:List (List ai)}(h:∀c∈l,dI c):ev x (uI l v)=bF (λn=>ev x (l.getD n [])*x.get v^n) l.length:=by have:=JB x v (i:=0) h;rw[uI,mO (dI.fromL v (Int.le_refl _) h)];rw[show((0:Nat):Int)=0 from rfl]at this;rw[this,Rat.pow_zero];grind
theorem Pt.put_get(x:Pt)(v:Nat):x.put v (x.get v)=x:=by rcases v with _|_|_|v<;>rfl
theorem AY{p:List ai}(h:aY p)(v:Nat):uI (aB p v) v=p:=by
 refine Qh (dI.fromL v (Int.le_refl _) λc hc=>?_) h λx=>?_
 ·obtain⟨n,rfl⟩:=gQ hc;exact(h.coeff v n).nat
 ·have:=H7 x v (l:=aB p v) (λc hc=>by obtain⟨n,rfl⟩:=gQ hc;exact(h.coeff v n).nat);rw[uI,mO (dI.fromL v (Int.le_refl _) λc hc=>by obtain⟨n,rfl⟩:=gQ hc;exact(h.coeff v n).nat)]at this;rw[this];have e:=CP x v (x.get v) _ h.nat H5;rw[Pt.put_get]at e;rw[e,bv];exact dO λi b=>by rw[jI b]
end Q
end
section
namespace Q
theorem MC{l:List ai}(h:l.Pairwise (λs t=>s.1≠t.1)){t:ai}(b:t∈l):cf l t.1=t.2:=by
 induction l with
 | nil=>cases b
 | cons s l i =>
  obtain⟨d,e⟩:=List.pairwise_cons.1 h;rw[bR];rcases List.mem_cons.1 b with rfl|b
  ·rw[if_pos rfl,oQ (λu hu=>(d u hu).symm)];grind
  ·rw[if_neg (d t b),i e b];grind
theorem Sd{l:List ai}{e:Ex}(h:cf l e≠0):∃t∈l,t.1=e:=by apply Classical.byContradiction;intro b;exact h (oQ λt d he=>b ⟨t,d,he⟩)
theorem VC{l r:List ai}(h:l.Perm r)(e:Ex):cf l e=cf r e:=by
 induction h with
 | nil=>rfl
 | cons x _ b=>rw[bR,bR,b]
 | swap x y l=>rw[bR,bR,bR,bR];grind
 | trans _ _ h1 h2=>rw[h1,h2]
theorem zL{l L d:List ai}(k:L.Pairwise (λs t=>s.1≠t.1))(n:∀t∈L,t.1.nat=true/\t.2=cf l t.1/\t.2≠0)(o:∀e:Ex,e.nat=true->cf l e≠0->(e,cf l e)∈L)
  (hp:L.Perm d) (q:d.Pairwise (λs t=>t.1.gt s.1=false)):d=canon l:=by
 have m:d.Pairwise (λs t=>s.1≠t.1):=(hp.pairwise_iff (λh=>Ne.symm h)).1 k
 have i:Ht d:=by have:=List.pairwise_and_iff.2 ⟨q,m⟩;exact this.imp λ⟨a,b⟩=>Ex.gt_total a (λe=>b e.symm)
 have hv:aY d:=⟨i,λt j=>by have:=n t (hp.mem_iff.2 j);exact⟨this.2.2,this.1⟩⟩;refine hv.inj (fK l) λe=>?_;rw[ou,<-VC hp];by_cases hz:cf L e=0
 ·rw[hz];split
  ·rename_i p;apply Classical.byContradiction;intro hc;have:=MC k (o e p (λh=>hc h.symm));rw[hz]at this;exact hc this
  ·rfl
 ·obtain⟨t,j,rfl⟩:=Sd hz;rw[MC k j,if_pos (n t j).1,(n t j).2.1]
def dQ:List ai->List ai->List ai
 | [],q=>q
 | p,[]=>p
 | s::p,t::q=>if s.1.gt t.1=true then s::dQ p (t::q)else if t.1.gt s.1=true then t::dQ (s::p) q else if s.2+t.2=0 then dQ p q else(s.1,s.2+t.2)::dQ p q
 termination_by p q=>p.length+q.length
theorem mergeP_nil(p:List ai):dQ p []=p:=by cases p<;>simp[dQ]
theorem oD(q:List ai):dQ [] q=q:=by simp[dQ]
theorem jM{e:Ex}:∀{p q:List ai},(∀t∈p,e.gt t.1=true)->(∀t∈q,e.gt t.1=true)->∀t∈dQ p q,e.gt t.1=true
 | [],q,_,h=>by rw[oD];exact h
 | s::p,[],h,_=>by rw[mergeP_nil];exact h
 | s::p,t::q,h,h'=>by
  intro u hu;unfold dQ at hu;have d:=h s sM;have b:=h' t sM;have hp:∀t∈p,e.gt t.1=true:=λt b=>h t (by simp[b]);have hq:∀t∈q,e.gt t.1=true:=λt b=>h' t (by simp[b]);split at hu
  ·rcases List.mem_cons.1 hu with rfl|hu
   ·exact d
   ·exact jM hp h' u hu
  ·split at hu
   ·rcases List.mem_cons.1 hu with rfl|hu
    ·exact b
    ·exact jM h hq u hu
   ·split at hu
    ·exact jM hp hq u hu
    ·rcases List.mem_cons.1 hu with rfl|hu
     ·exact d
     ·exact jM hp hq u hu
 termination_by p q=>p.length+q.length
theorem vS:∀{p q:List ai},aY p->aY q->aY (dQ p q)/\∀e,cf (dQ p q) e=cf p e+cf q e
 | [],q,_,h=>by rw[oD];exact⟨h,λe=>by rw[jL];grind⟩
 | s::p,[],h,_=>by rw[mergeP_nil];exact⟨h,λe=>by rw[jL];grind⟩
 | s::p,t::q,h,h'=>by
  have hp:=h.tail;have hq:=h'.tail;unfold dQ;split
  ·rename_i hg;obtain⟨b,d⟩:=vS hp h';refine⟨⟨List.pairwise_cons.2 ⟨jM (h.1.head) (λu hu=>?_),b.1⟩,λu hu=>?_⟩,λe=>?_⟩
   ·rcases List.mem_cons.1 hu with rfl|hu
    ·exact hg
    ·exact Ex.gt_trans hg (h'.1.head u hu)
   ·rcases List.mem_cons.1 hu with rfl|hu
    ·exact h.2 _ sM
    ·exact b.2 u hu
   ·rw[bR,d,bR (l:=p)];grind
  ·split
   ·rename_i hg;obtain⟨b,d⟩:=vS h hq;refine⟨⟨List.pairwise_cons.2 ⟨jM (λu hu=>?_) (h'.1.head),b.1⟩,λu hu=>?_⟩,λe=>?_⟩
    ·rcases List.mem_cons.1 hu with rfl|hu
     ·exact hg
     ·exact Ex.gt_trans hg (h.1.head u hu)
    ·rcases List.mem_cons.1 hu with rfl|hu
     ·exact h'.2 _ sM
     ·exact b.2 u hu
    ·rw[bR,d,bR (l:=q)];grind
   ·rename_i i j
    have he:s.1=t.1:=by apply Classical.byContradiction;intro k;exact j (Ex.gt_total (by simpa using i) k)
    obtain⟨b,d⟩:=vS hp hq;split
    ·rename_i hz;refine⟨b,λe=>?_⟩;rw[d,bR,bR,he];grind
    ·rename_i hz;refine⟨⟨List.pairwise_cons.2 ⟨jM (h.1.head) (λu hu=>by rw[he];exact h'.1.head u hu),b.1⟩,λu hu=>?_⟩,λe=>?_⟩
     ·rcases List.mem_cons.1 hu with rfl|hu
      ·exact⟨hz,(h.2 s sM).2⟩
      ·exact b.2 u hu
     ·rw[bR,d,bR,bR,he];grind
 termination_by p q=>p.length+q.length
theorem si{p q:List ai}(hp:aY p)(hq:aY q):dQ p q=mP p q:=by
 obtain⟨h,i⟩:=vS hp hq;refine h.inj (fK _) λe=>?_;rw[i,mP,ou,qi];split
 ·rfl
 ·rename_i d;rw[oQ (l:=p) (λt b he=>d (by rw[<-he];exact(hp.2 t b).2)),oQ (l:=q) (λt b he=>d (by rw[<-he];exact(hq.2 t b).2))];grind
end Q
end
section
namespace Q
theorem uJ{e f g h:Ex}(d:e=f\/e.gt f=true)(b:g=h\/g.gt h=true)(i:¬(e=f/\g=h)):(e.add g).gt (f.add h)=true:=by
 rcases d with rfl|d
 ·rcases b with rfl|b
  ·exact absurd ⟨rfl,rfl⟩ i
  ·rw[Ex.gt_add];exact b
 ·rcases b with rfl|b
  ·rw[Ex.add_comm e,Ex.add_comm f,Ex.gt_add];exact d
  ·refine Ex.gt_trans (f:=e.add h) (by rw[Ex.gt_add];exact b) ?_;rw[Ex.add_comm e,Ex.add_comm f,Ex.gt_add];exact d
theorem Ht.head_or{s:ai}{l:List ai}(h:Ht (s::l)):∀u∈s::l,s.1=u.1\/s.1.gt u.1=true:=λu hu=>by
 rcases List.mem_cons.1 hu with rfl|hu
 ·exact .inl rfl
 ·exact .inr (h.head u hu)
theorem rJ{s t:ai}{l r:List ai}(i:Ht (s::l))(e:Ht (t::r)):cf (prods (s::l) (t::r)) (s.1.add t.1)=s.2*t.2:=by
 rw[kI,qi,List.map_cons,bR]
 have e1:cf (r.map (mulT s)) (s.1.add t.1)=0:=oQ λu hu=>by obtain⟨j,d,rfl⟩:=List.mem_map.1 hu;exact(Ex.gt_ne (uJ (.inl rfl) (.inr (e.head j d)) (λh=>Ex.gt_ne (e.head j d) h.2))).symm
 have e2:cf (prods l (t::r)) (s.1.add t.1)=0:=oQ λu hu=>by obtain⟨a,ha,b,hb,rfl⟩:=kV hu;exact(Ex.gt_ne (uJ (.inr (i.head a ha)) (e.head_or b hb) (λh=>Ex.gt_ne (i.head a ha) h.1))).symm
 rw[e1,e2];simp only[mulT,if_true];grind
theorem H8{p q:List ai}(hp:aY p)(hq:aY q)(b:p≠[])(d:q≠[]):aO p q≠[]:=by
 cases p with
 | nil=>exact absurd rfl b
 | cons s l=>cases q with
  | nil=>exact absurd rfl d
  | cons t r =>
   intro h;have hc:=ou (prods (s::l) (t::r)) (s.1.add t.1);rw[show canon (prods (s::l) (t::r))=[]from h,jL,if_pos (Ex.nat_add hp.nat.head hq.nat.head),rJ hp.1 hq.1]at hc;exact jr (hp.2 s sM).1 (hq.2 t sM).1 hc.symm
theorem Fw(q:List ai):aO [] q=[]:=rfl
theorem uK(p:List ai):aO p []=[]:=by
 have:prods p []=[]:=by induction p with
  | nil=>rfl
  | cons s l b=>rw[kI,b];rfl
 rw[aO,this];rfl
theorem pO{p q:List ai}(hp:aY p)(hq:aY q):aO p q=[]↔p=[]\/q=[]:=by
 constructor
 ·intro h;rcases Classical.em (p=[])with h1|h1
  ·exact .inl h1
  ·rcases Classical.em (q=[])with h2|h2
   ·exact .inr h2
   ·exact absurd h (H8 hp hq h1 h2)
 ·rintro (rfl|rfl)
  ·exact Fw _
  ·exact uK _
theorem qw(f:Ex->Rat)(r:List ai):∀l:List ai,Lf f (prods l r)=Lf (λe=>Lf (λb=>f (e.add b)) r) l
 | []=>rfl
 | s::l=>by
  rw[kI,qh,qw f r l,pJ]
  congr 1
  rw[<-jK];exact wZ f (mulT s) (λb=>s.2*f (s.1.add b)) r λt _=>by simp only[mulT];grind
theorem Ex.get_add(e f:Ex)(v:Nat):(e.add f).get v=e.get v+f.get v:=by rcases v with _|_|_|v<;>rfl
theorem Ex.put_add(e f:Ex)(v:Nat):(e.add f).put v 0=(e.put v 0).add (f.put v 0):=by rcases v with _|_|_|v<;>simp[Ex.add,Ex.put]
theorem AZ{p q:List ai}(v:Nat):Ov (aG (prods p q) v (aH p v+aH q v)) (prods (aG p v (aH p v)) (aG q v (aH q v))):=λf=>by
 rw[fC,qw,qw,fC];refine iU λs d=>?_;have e:=fw d v;split
 ·rename_i he;rw[fC];refine iU λt b=>?_;rw[Ex.get_add,Ex.put_add];by_cases h:t.1.get v=aH q v
  ·rw[if_pos h,if_pos oM]
  ·rw[if_neg h,if_neg oM]
 ·rename_i he;rw[iU (g:=λ_=>0) (λt b=>?_),Ow];have i:=fw b v;rw[Ex.get_add,if_neg oM]
theorem gY{P:Ex->Prop}{l:List ai}(h:∀t∈l,P t.1):∀t∈canon l,P t.1:=by
 have:∀(l r:List ai),(∀t∈l,P t.1)->(∀t∈r,P t.1)->∀t∈l.foldl ins r,P t.1:=by
  intro l
  induction l with
  | nil=>exact λr _ b=>b
  | cons m l i =>
   intro r e b;exact i _ (λt d=>e t (by simp[d])) (Sa b (e m sM))
 exact this l [] h (λt d=>by cases d)
theorem aY.coeff_ne{p:List ai}(hp:aY p)(h:p≠[])(v:Nat):aG p v (aH p v)≠[]:=by obtain⟨t,b,e⟩:=lU h hp.nat v;intro hc;have:(t.1.put v 0,t.2)∈aG p v (aH p v):=List.mem_map.2 ⟨t,List.mem_filter.2 ⟨b,by simpa using e⟩,rfl⟩;rw[hc]at this;cases this
theorem Sg{p q:List ai}(hp:aY p)(hq:aY q)(m:p≠[])(n:q≠[])(v:Nat):aH (aO p q) v=aH p v+aH q v:=by
 have i:=H8 hp hq m n
 have mR:∀t∈aO p q,t.1.get v<=aH p v+aH q v:=gY (P:=λe=>e.get v<=aH p v+aH q v) λt j=>by obtain⟨a,ha,b,hb,rfl⟩:=kV j;have:=fw ha v;have:=fw hb v;simp only[mulT,Ex.get_add];omega
 obtain⟨t,j,e⟩:=lU i (aY.mul p q).nat v;have r:=mR t j
 have hc:aG (aO p q) v (aH p v+aH q v)≠[]:=by
  intro h
  have o:Ov (aG (aO p q) v (aH p v+aH q v)) (prods (aG p v (aH p v)) (aG q v (aH q v))):=λf=>by rw[fC,aO,(jA (dI.prods hp.nat hq.nat)) _,<-fC];exact AZ v f
  rw[h]at o;have s:=H8 (hp.coeff v (aH p v)) (hq.coeff v (aH q v)) (hp.coeff_ne m v) (hq.coeff_ne n v);exact s (show canon _=[]from by rw[<-o.canon];rfl)
 obtain⟨c,d⟩:=List.exists_mem_of_ne_nil _ hc;obtain⟨u,hu,-⟩:=List.mem_map.1 d;obtain⟨k,l⟩:=List.mem_filter.1 hu;have x:=fw k v;have y:u.1.get v=aH p v+aH q v:=by simpa using l
 omega
end Q
end
section
namespace Q
theorem Cc{e:Ex}{c:Rat}(he:e.nat=true)(hc:c≠0):aY [(e,c)] :=
 ⟨List.pairwise_singleton _ _,λt b=>by rw[List.mem_singleton.1 b];exact⟨hc,he⟩⟩
theorem Ex.get_put_ne(e:Ex){x y:Nat}(b:x<4)(d:y<4)(h:x≠y)(a:Int):(e.put x a).get y=e.get y:=by
 obtain rfl|rfl|rfl|rfl:x=0\/x=1\/x=2\/x=3:=oM
 all_goals (obtain rfl|rfl|rfl|rfl:y=0\/y=1\/y=2\/y=3:=oM)<;>first|rfl|exact absurd rfl h
theorem ME(p:List ai)(v:Nat)(n:Int):aH (aG p v n) v<=0:=by
 rcases(iO (λt=>t.1.get v) (aG p v n) (-1)).2.2 with h|⟨t,b,h⟩
 ·show(aG p v n).foldl _ _<=0;rw[h];omega
 ·show(aG p v n).foldl _ _<=0;rw[<-h];obtain⟨s,-,rfl⟩:=List.mem_map.1 b;simp only[Ex.get_put];omega
theorem Qj(p:List ai)(v:Nat)(c:Rat):aH (yc p v c) v<=0:=by
 have hz:∀t∈yc p v c,t.1.get v=0:=gY (P:=λe=>e.get v=0) λt b=>by obtain⟨s,-,rfl⟩:=List.mem_map.1 b;exact Ex.get_put _ _ _
 rcases(iO (λt=>t.1.get v) (yc p v c) (-1)).2.2 with h|⟨t,b,h⟩
 ·show(yc p v c).foldl _ _<=0;rw[h];omega
 ·show(yc p v c).foldl _ _<=0;rw[<-h,hz t b];omega
theorem aY.eval(p:List ai)(v:Nat)(c:Rat):aY (yc p v c):=fK _
end Q
end
section
namespace Q
structure MP where
 l:List ai
 v:aY l
theorem MP.eq_of{p q:MP}(h:p.l=q.l):p=q:=by cases p;cases q;cases h;rfl
def MP.ev (x:Pt) (p:MP):Rat:=Q.ev x p.l
theorem MP.ext'{p q:MP}(h:∀x,p.ev x=q.ev x):p=q:=MP.eq_of (lK p.v q.v h)
def MP.c (r:Rat):MP:=⟨cK r,aY.const r⟩
instance:Add MP:=⟨λp q=>⟨mP p.l q.l,aY.add _ _⟩⟩
instance:Mul MP:=⟨λp q=>⟨aO p.l q.l,aY.mul _ _⟩⟩
instance:Neg MP:=⟨λp=>⟨bY p.l (-1),p.v.scale _⟩⟩
instance:Sub MP:=⟨λp q=>⟨dL p.l q.l,aY.sub _ _⟩⟩
instance:NatCast MP:=⟨λn=>MP.c n⟩
instance:IntCast MP:=⟨λn=>MP.c n⟩
instance (n:Nat):OfNat MP n:=⟨MP.c (n:Rat)⟩
instance:SMul Nat MP:=⟨λn p=>(n:MP)*p⟩
instance:SMul Int MP:=⟨λn p=>(n:MP)*p⟩
instance:HPow MP Nat MP:=⟨λp n=>⟨nC p.l n,aY.pow _ _⟩⟩
theorem MP.ev_add(x:Pt)(p q:MP):(p+q).ev x=p.ev x+q.ev x:=Q.ev_add x p.v.nat q.v.nat
theorem MP.ev_mul(x:Pt)(p q:MP):(p*q).ev x=p.ev x*q.ev x:=Q.ev_mul x p.v.nat q.v.nat
theorem MP.ev_neg(x:Pt)(p:MP):(-p).ev x=- p.ev x:=by have:=Q.ev_scale x p.l (-1);show Q.ev x (bY p.l (-1))=- Q.ev x p.l;rw[this];grind
theorem MP.ev_sub(x:Pt)(p q:MP):(p-q).ev x=p.ev x-q.ev x:=Q.ev_sub x p.v.nat q.v
theorem MP.ev_c(x:Pt)(r:Rat):(MP.c r).ev x=r:=mQ x r
theorem MP.ev_nat(x:Pt)(n:Nat):((n:Nat):MP).ev x=n:=mQ x _
theorem MP.ev_int(x:Pt)(n:Int):((n:Int):MP).ev x=n:=mQ x _
theorem MP.ev_ofNat(x:Pt)(n:Nat):(OfNat.ofNat n:MP).ev x=(n:Rat):=mQ x _
theorem MP.ev_zero(x:Pt):(0:MP).ev x=0:=(mQ x ((0:Nat):Rat)).trans rfl
theorem MP.ev_one(x:Pt):(1:MP).ev x=1:=(mQ x ((1:Nat):Rat)).trans rfl
theorem MP.ev_pow(x:Pt)(p:MP)(n:Nat):(p^n).ev x=p.ev x^n:=Q.ev_pow x p.v.nat n
abbrev MP.cls {C:Type->Type} {α:Type} (_:C α):Type->Type:=C
instance:MP.cls Dyadic.instCommRing MP where
 add_zero a:=MP.ext' λx=>by rw[MP.ev_add,MP.ev_zero];grind
 add_comm a b:=MP.ext' λx=>by rw[MP.ev_add,MP.ev_add];grind
 add_assoc a b c:=MP.ext' λx=>by simp only[MP.ev_add];grind
 mul_assoc a b c:=MP.ext' λx=>by simp only[MP.ev_mul];grind
 mul_one a:=MP.ext' λx=>by rw[MP.ev_mul,MP.ev_one];grind
 one_mul a:=MP.ext' λx=>by rw[MP.ev_mul,MP.ev_one];grind
 left_distrib a b c:=MP.ext' λx=>by simp only[MP.ev_mul,MP.ev_add];grind
 right_distrib a b c:=MP.ext' λx=>by simp only[MP.ev_mul,MP.ev_add];grind
 zero_mul a:=MP.ext' λx=>by rw[MP.ev_mul,MP.ev_zero];grind
 mul_zero a:=MP.ext' λx=>by rw[MP.ev_mul,MP.ev_zero];grind
 pow_zero a:=MP.ext' λx=>by rw[MP.ev_pow,MP.ev_one,Rat.pow_zero]
 pow_succ a n:=MP.ext' λx=>by rw[MP.ev_pow,MP.ev_mul,MP.ev_pow,Rat.pow_succ]
 ofNat_succ a:=MP.ext' λx=>by have h:=MP.ev_ofNat x (a+1);have h2:=MP.ev_ofNat x a;rw[MP.ev_add,MP.ev_one,h,h2,Rat.natCast_add];rfl
 ofNat_eq_natCast n:=rfl
 nsmul_eq_natCast_mul n a:=rfl
 neg_add_cancel a:=MP.ext' λx=>by rw[MP.ev_add,MP.ev_neg,MP.ev_zero];grind
 sub_eq_add_neg a b:=MP.ext' λx=>by rw[MP.ev_add,MP.ev_neg,MP.ev_sub];grind
 neg_zsmul i a:=MP.ext' λx=>by show MP.ev x (((-i:Int):MP)*a)=MP.ev x (-((i:MP)*a));rw[MP.ev_mul,MP.ev_neg,MP.ev_mul,MP.ev_int,MP.ev_int,Rat.intCast_neg];grind
 zsmul_natCast_eq_nsmul n a:=MP.ext' λx=>by show MP.ev x (((n:Int):MP)*a)=MP.ev x ((n:MP)*a);rw[MP.ev_mul,MP.ev_mul,MP.ev_int,MP.ev_nat,iN]
 intCast_ofNat n:=MP.ext' λx=>by have h:=MP.ev_ofNat x n;rw[h];exact(MP.ev_int x _).trans (iN n)
 intCast_neg i:=MP.ext' λx=>by rw[MP.ev_int,MP.ev_neg,MP.ev_int,Rat.intCast_neg]
 mul_comm a b:=MP.ext' λx=>by rw[MP.ev_mul,MP.ev_mul];grind
theorem MP.zero_iff{p:MP}:p=0↔p.l=[]:=⟨λh=>by rw[h];rfl,λh=>MP.eq_of (by rw[h];rfl)⟩
theorem MP.mul_eq_zero{p q:MP}:p*q=0↔p=0\/q=0:=by rw[MP.zero_iff,MP.zero_iff,MP.zero_iff];exact pO p.v q.v
theorem MP.mul_ne{p q:MP}(hp:p≠0)(hq:q≠0):p*q≠0:=λh=>(MP.mul_eq_zero.1 h).elim hp hq
theorem MP.cancel{p q r:MP}(hp:p≠0)(h:p*q=p*r):q=r:=by
 have:p*(q - r)=0:=gR;rcases MP.mul_eq_zero.1 this with h|h
 ·exact absurd h hp
 ·grind
theorem MP.one_ne:(1:MP)≠0:=λh=>by have:=MP.zero_iff.1 h;cases this
def MP.deg (v:Nat) (p:MP):Int:=aH p.l v
def MP.co (v n:Nat) (p:MP):MP:=⟨aG p.l v n,p.v.coeff v n⟩
def MP.fr (v:Nat) (p:MP):Prop:=p.deg v<=0
theorem MP.deg_mul{p q:MP}(hp:p≠0)(hq:q≠0)(v:Nat):(p*q).deg v=p.deg v+q.deg v :=
 Sg p.v q.v (λh=>hp (MP.zero_iff.2 h)) (λh=>hq (MP.zero_iff.2 h)) v
theorem MP.deg_ge(v:Nat)(p:MP):-1<=p.deg v:=vR _ _
theorem MP.deg_pos{p:MP}(hp:p≠0)(v:Nat):0<=p.deg v:=by obtain⟨t,b,e⟩:=lU (λh=>hp (MP.zero_iff.2 h)) p.v.nat v;show 0<=aH p.l v;rw[<-e];exact Ex.nat_get (p.v.nat t b) v
theorem MP.deg_zero(v:Nat):(0:MP).deg v=-1:=rfl
theorem MP.fr_get{p:MP}{v:Nat}(h:p.fr v){t:ai}(b:t∈p.l):t.1.get v=0:=by have d:=fw b v;have e:=Ex.nat_get (p.v.nat t b) v;have i:aH p.l v<=0:=h;omega
theorem Si{p:MP}{v:Nat}(h:∀t∈p.l,t.1.get v=0):p.fr v:=by
 rcases(iO (λt=>t.1.get v) p.l (-1)).2.2 with e|⟨t,b,e⟩
 ·show aH p.l v<=0;unfold aH;rw[e];omega
 ·show aH p.l v<=0;unfold aH;rw[<-e,h t b];omega
theorem MP.co_fr(v n:Nat)(p:MP):(p.co v n).fr v:=ME _ _ _
theorem Qk{p q:MP}(h:Ov p.l q.l):p=q:=MP.eq_of (p.v.eqv_inj q.v h)
theorem MP.lf_add(f:Ex->Rat)(p q:MP):Lf f (p+q).l=Lf f p.l+Lf f q.l:=by have:=jA (p.v.nat.append q.v.nat) f;show Lf f (canon (p.l++q.l))=_;rw[this,qh]
theorem MP.lf_mul(f:Ex->Rat)(p q:MP):Lf f (p*q).l=Lf (λe=>Lf (λb=>f (e.add b)) q.l) p.l:=by have:=jA (p.v.nat.prods q.v.nat) f;show Lf f (canon (prods p.l q.l))=_;rw[this,qw]
theorem MP.lf_neg(f:Ex->Rat)(p:MP):Lf f (-p).l=- Lf f p.l:=by have h:p+-p=0:=gR;have:=MP.lf_add f p (-p);rw[h]at this;have e:Lf f (0:MP).l=0:=rfl;rw[e]at this;grind
theorem MP.co_add(v n:Nat)(p q:MP):(p+q).co v n=p.co v n+q.co v n:=Qk λf=>by rw[MP.lf_add];show Lf f (aG _ v n)=Lf f (aG _ v n)+Lf f (aG _ v n);rw[fC,fC,fC,MP.lf_add]
theorem MP.co_neg(v n:Nat)(p:MP):(-p).co v n=- p.co v n:=Qk λf=>by rw[MP.lf_neg];show Lf f (aG _ v n)=- Lf f (aG _ v n);rw[fC,fC,MP.lf_neg]
theorem MP.co_sub(v n:Nat)(p q:MP):(p-q).co v n=p.co v n-q.co v n:=by have h:p-q=p+-q:=gR;rw[h,MP.co_add,MP.co_neg];grind
theorem MP.co_mul_fr{d:MP}{v:Nat}(hd:d.fr v)(n:Nat)(p:MP):(d*p).co v n=d*p.co v n:=Qk λf=>by rw[MP.lf_mul];show Lf f (aG _ v n)=_;rw[fC,MP.lf_mul];refine iU λt b=>?_;show _=Lf _ (aG _ v n);rw[fC];refine iU λs _=>?_;have e:=MP.fr_get hd b;rw[Ex.get_add,e,Ex.put_add,show t.1.put v 0=t.1 by rw[<-e,Ex.put_get],Int.zero_add]
def MP.xk (v k:Nat):MP:=⟨[(e0.put v k,1)],Cc (Ex.put_nat rfl v (by omega)) (by decide)⟩
theorem CQ(v:Nat):Ex.get e0 v=0:=by rcases v with _|_|_|v<;>rfl
theorem MP.xk_ne(v k:Nat):MP.xk v k≠0:=λh=>by have:=MP.zero_iff.1 h;cases this
theorem Ex.add_put0(e:Ex)(v:Nat)(k:Int):((e0.put v k).add e)=e.put v (e.get v+k):=by rcases v with _|_|_|v<;>simp[Ex.add,Ex.put,Ex.get,Int.add_comm]
theorem MP.co_xk(v k n:Nat)(p:MP):(MP.xk v k*p).co v n=if k<=n then p.co v (n-k)else 0:=Qk λf=>by
 show Lf f (aG _ v n)=_;rw[fC,MP.lf_mul];show Lf _ [((e0.put v k),(1:Rat))]=_;rw[pJ,Mv];split
 ·rename_i h;show _=Lf f (aG _ v _);rw[fC]
  have:Lf (λb=>if((e0.put v ↑k).add b).get v=(n:Int)then f (((e0.put v ↑k).add b).put v 0)else 0) p.l=Lf (λe=>if e.get v=((n-k:Nat):Int)then f (e.put v 0)else 0) p.l:=iU λt _=>by
   rw[Ex.add_put0,Ex.get_put,Ex.put_put];by_cases hc:t.1.get v=((n-k:Nat):Int)
   ·rw[if_pos hc,if_pos oM]
   ·rw[if_neg hc,if_neg oM]
  rw[this];grind
 ·rename_i h
  have:Lf (λb=>if((e0.put v ↑k).add b).get v=(n:Int)then f (((e0.put v ↑k).add b).put v 0)else 0) p.l=Lf (λ_=>0) p.l:=iU λt d=>by rw[Ex.add_put0,Ex.get_put];have:=Ex.nat_get (p.v.nat t d) v;rw[if_neg oM]
  rw[this,Ow];show _=(0:Rat);grind
theorem MP.deg_xk(v k:Nat):(MP.xk v k).deg v=k:=by show max (-1) ((e0.put v k).get v)=k;rw[Ex.get_put];omega
theorem MP.co_above{p:MP}{v n:Nat}(h:p.deg v<n):p.co v n=0:=by rw[MP.zero_iff];show(p.l.filter λt=>t.1.get v=(n:Int)).map _=[];rw[List.map_eq_nil_iff,List.filter_eq_nil_iff];intro t b;have:=fw b v;have d:aH p.l v<n:=h;simp;omega
theorem MP.deg_le_of{p:MP}{v:Nat}{k:Int}(j:-1<=k)(h:∀n:Nat,k<n->p.co v n=0):p.deg v<=k:=by
 rcases Int.lt_or_le k (p.deg v)with hlt|mR
 ·exfalso
  have b:p.l≠[]:=λe=>by
   have:p.deg v=-1:=by show aH p.l v=-1;rw[e];rfl
   omega
  obtain⟨t,d,e⟩:=lU b p.v.nat v;have i:=Ex.nat_get (p.v.nat t d) v;have hz:=h (t.1.get v).toNat (by rw[e];show k<((aH p.l v).toNat:Int);rw[Int.toNat_of_nonneg (by rw[<-e];exact i)];exact hlt);rw[MP.zero_iff]at hz;have hz:(p.l.filter λu=>u.1.get v=((t.1.get v).toNat:Int)).map _=[]:=hz;rw[List.map_eq_nil_iff,List.filter_eq_nil_iff]at hz;exact hz t d (by simp;omega)
 ·exact mR
def MP.lc (v:Nat) (p:MP):MP:=p.co v (p.deg v).toNat
theorem MP.lc_fr(v:Nat)(p:MP):(p.lc v).fr v:=MP.co_fr _ _ _
theorem MP.lc_ne{p:MP}(hp:p≠0)(v:Nat):p.lc v≠0:=λh=>by rw[MP.zero_iff]at h;have b:=p.v.coeff_ne (λe=>hp (MP.zero_iff.2 e)) v;have d:0<=aH p.l v:=MP.deg_pos hp v;apply b;have:aG p.l v ((aH p.l v).toNat:Int)=[]:=h;rwa[Int.toNat_of_nonneg d]at this
def dA (f:Nat->MP):Nat->MP
 | 0=>0
 | n+1=>dA f n+f n
theorem H9(x:Pt)(f:Nat->MP):∀n,(dA f n).ev x=bF (λi=>(f i).ev x) n
 | 0=>MP.ev_zero x
 | n+1=>by rw[dA,MP.ev_add,H9 x f n];rfl
theorem MP.ev_xk(x:Pt)(v k:Nat):(MP.xk v k).ev x=x.get v^k:=by
 show(1:Rat)*lw x (e0.put v k)+0=_
 have:lw x (e0.put v k)=x.get v^k:=by rcases v with _|_|_|v<;>simp[lw,Ex.put,Pt.get,Rat.pow_zero,Rat.one_mul,Rat.mul_one]
 rw[this];grind
theorem MP.split(v:Nat)(p:MP){N:Nat}(h:p.deg v<N):p=dA (λn=>p.co v n*MP.xk v n) N:=MP.ext' λx=>by rw[H9];have:=CP x v (x.get v) N p.v.nat (λt b=>by have:=fw b v;have d:aH p.l v<N:=h;omega);rw[Pt.put_get]at this;show Q.ev x p.l=_;rw[this];refine dO λi _=>?_;rw[MP.ev_mul,MP.ev_xk];rfl
instance:Dvd MP:=⟨λa b=>∃c,b=a*c⟩
theorem MP.dvd_refl(a:MP):a∣a:=⟨1,gR⟩
theorem MP.dvd_trans{a b c:MP}(h:a∣b)(d:b∣c):a∣c:=by obtain⟨x,rfl⟩:=h;obtain⟨y,rfl⟩:=d;exact⟨x*y,gR⟩
theorem MP.dvd_mul_right(a b:MP):a∣a*b:=⟨b,rfl⟩
theorem MP.dvd_mul_left(a b:MP):a∣b*a:=⟨b,gR⟩
theorem MP.dvd_zero(a:MP):a∣0:=⟨0,gR⟩
theorem MP.zero_dvd{a:MP}(h:(0:MP)∣a):a=0:=by obtain⟨x,rfl⟩:=h;grind
theorem MP.dvd_add{a b c:MP}(h:a∣b)(d:a∣c):a∣b+c:=by obtain⟨x,rfl⟩:=h;obtain⟨y,rfl⟩:=d;exact⟨x+y,gR⟩
theorem MP.dvd_sub{a b c:MP}(h:a∣b)(d:a∣c):a∣b-c:=by obtain⟨x,rfl⟩:=h;obtain⟨y,rfl⟩:=d;exact⟨x - y,gR⟩
theorem MP.dvd_mul_of{a b:MP}(h:a∣b)(c:MP):a∣b*c:=by obtain⟨x,rfl⟩:=h;exact⟨x*c,gR⟩
theorem MP.dvd_mul_of'{a b:MP}(h:a∣b)(c:MP):a∣c*b:=by obtain⟨x,rfl⟩:=h;exact⟨c*x,gR⟩
theorem MP.mul_dvd{a b c d:MP}(h:a∣b)(e:c∣d):a*c∣b*d:=by obtain⟨x,rfl⟩:=h;obtain⟨y,rfl⟩:=e;exact⟨x*y,gR⟩
theorem MP.dvd_cancel{a b c:MP}(ha:a≠0)(h:a*b∣a*c):b∣c:=by obtain⟨x,e⟩:=h;exact⟨x,MP.cancel ha (by rw[e];grind)⟩
theorem MP.dvd_ne{a b:MP}(hb:b≠0)(h:a∣b):a≠0:=λe=>hb (MP.zero_dvd (e▸h))
theorem MP.dvd_deg{a b:MP}(hb:b≠0)(h:a∣b)(v:Nat):a.deg v<=b.deg v:=by obtain⟨x,rfl⟩:=h;have ha:a≠0:=λe=>hb (by rw[e];grind);have d:x≠0:=λe=>hb (by rw[e];grind);have:=MP.deg_pos d v;rw[MP.deg_mul ha d];omega
theorem MP.dvd_msum{a:MP}{f:Nat->MP}:∀{n:Nat},(∀i,i<n->a∣f i)->a∣dA f n
 | 0,_=>MP.dvd_zero a
 | n+1,h=>MP.dvd_add (MP.dvd_msum λi b=>h i (by omega)) (h n (by omega))
theorem MP.dvd_iff_co{d:MP}{v:Nat}(hd:d.fr v)(p:MP):d∣p↔∀n,d∣p.co v n:=by
 constructor
 ·rintro⟨q,rfl⟩ n;rw[MP.co_mul_fr hd];exact MP.dvd_mul_right _ _
 ·intro h;rw[MP.split v p (N:=(p.deg v).toNat+1) (by have:=MP.deg_ge v p;omega)];exact MP.dvd_msum λi _=>MP.dvd_mul_of (h i) _
def MP.unit (a:MP):Prop:=a∣1
theorem MP.unit_dvd{a:MP}(h:a.unit)(b:MP):a∣b:=by obtain⟨x,e⟩:=h;exact⟨x*b,gR⟩
theorem MP.unit_of_dvd{a b:MP}(h:a∣b)(hb:b.unit):a.unit:=MP.dvd_trans h hb
theorem MP.unit_one:(1:MP).unit:=MP.dvd_refl 1
theorem MP.unit_cancel{a u:MP}(ha:a≠0)(h:a*u∣a):u.unit:=by refine MP.dvd_cancel ha (c:=1) ?_;have e:a*1=a:=gR;rw[e];exact h
end Q
end
