/- Short steps' ends: a tactic that closes a goal, as a term. -/
import Derived.IntWalk
set_option linter.unusedVariables false
set_option linter.unusedSimpArgs false
set_option maxHeartbeats 16000000
set_option maxRecDepth 100000
section
theorem oM{p:Prop}(h:p:=by omega):p:=h
theorem dM{p:Prop}(h:p:=by decide):p:=h
theorem dK{p:Prop}(h:p:=by decide +kernel):p:=h
theorem sM{p:Prop}(h:p:=by simp):p:=h
theorem gR{p:Prop}(h:p:=by grind):p:=h
theorem aM{p:Prop}(h:p:=by assumption):p:=h
theorem kM{p:Prop}(h:p:=by kernel_rfl):p:=h
theorem nM{p:Prop}(h:p:=by go_num):p:=h
theorem nL(n:Nat):n<=n:=Nat.le_refl n
theorem gE.{u}{α:Type u}{l:List α}{i:Nat}(h:i<l.length):l[i]?=some l[i]:=List.getElem?_eq_getElem h
theorem jD.{u}{α:Type u}{l:List α}{i:Nat}{a:α}:l.getD i a=l[i]?.getD a:=List.getD_eq_getElem?_getD
theorem gS.{u}{α:Type u}{i:Nat}{a:α}{l:List α}:l[i]?=some a↔∃h:i<l.length,l[i]=a:=List.getElem?_eq_some_iff
theorem tL.{u}{α:Type u}{i:Nat}{l:List α}(h:l.length<=i):l.take i=l:=List.take_of_length_le h
theorem sJ.{u}{α:Type u}(a b:α):(some a=some b)=(a=b):=Option.some.injEq a b
theorem iN(n:Nat):((n:Int):Rat)=(n:Rat):=Rat.intCast_natCast n
theorem mZ{a b c:Int}(h:a<=b)(d:0<=c):c*a<=c*b:=Int.mul_le_mul_of_nonneg_left h d
theorem nU(n:Nat):n*1=n:=Nat.mul_one n
theorem gN.{u}{α:Type u}{l:List α}{i:Nat}(h:l.length<=i):l[i]?=none:=List.getElem?_eq_none h
end
section
namespace Q
abbrev Ex:=Int × Int × Int × Int
def Ex.get (e:Ex) (v:Nat):Int:=match v with|0=>e.1|1=>e.2.1|2=>e.2.2.1|_=>e.2.2.2
def Ex.put (e:Ex) (v:Nat) (x:Int):Ex:=match v with|0=>(x,e.2.1,e.2.2.1,e.2.2.2)|1=>(e.1,x,e.2.2.1,e.2.2.2)|2=>(e.1,e.2.1,x,e.2.2.2)|_=>(e.1,e.2.1,e.2.2.1,x)
def Ex.add (e f:Ex):Ex:=(e.1+f.1,e.2.1+f.2.1,e.2.2.1+f.2.2.1,e.2.2.2+f.2.2.2)
def Ex.sub (e f:Ex):Ex:=(e.1-f.1,e.2.1-f.2.1,e.2.2.1-f.2.2.1,e.2.2.2-f.2.2.2)
def Ex.nat (e:Ex):Bool:=decide (0<=e.1/\0<=e.2.1/\0<=e.2.2.1/\0<=e.2.2.2)
def Ex.gt (e f:Ex):Bool:=decide (f.2.2.2<e.2.2.2\/f.2.2.2=e.2.2.2/\(f.2.2.1<e.2.2.1\/f.2.2.1=e.2.2.1/\(f.2.1<e.2.1\/f.2.1=e.2.1/\f.1<e.1)))
theorem Ex.nat_iff{e:Ex}:e.nat=true↔0<=e.1/\0<=e.2.1/\0<=e.2.2.1/\0<=e.2.2.2:=decide_eq_true_iff
theorem Ex.gt_iff{e f:Ex}:e.gt f=true↔(f.2.2.2<e.2.2.2\/f.2.2.2=e.2.2.2/\(f.2.2.1<e.2.2.1\/f.2.2.1=e.2.2.1/\(f.2.1<e.2.1\/f.2.1=e.2.1/\f.1<e.1))):=decide_eq_true_iff
theorem Ex.ext'{e f:Ex}(i:e.1=f.1)(j:e.2.1=f.2.1)(k:e.2.2.1=f.2.2.1)(l:e.2.2.2=f.2.2.2):e=f:=by obtain⟨a,b,c,d⟩:=e;obtain⟨a',h,c',d'⟩:=f;simp_all
theorem Ex.gt_irrefl(e:Ex):e.gt e=false:=by simp[Ex.gt]
theorem Ex.gt_trans{e f g:Ex}(b:e.gt f=true)(d:f.gt g=true):e.gt g=true:=by simp only[Ex.gt,decide_eq_true_eq]at *;omega
theorem Ex.gt_ne{e f:Ex}(h:e.gt f=true):e≠f:=by rintro rfl;rw[Ex.gt_irrefl]at h;cases h
theorem Ex.gt_asymm{e f:Ex}(h:e.gt f=true):f.gt e=false:=by
 cases hf:f.gt e
 ·rfl
 ·have:=Ex.gt_trans h hf;rw[Ex.gt_irrefl]at this;cases this
theorem Ex.gt_total{e f:Ex}(h:e.gt f=false)(i:e≠f):f.gt e=true:=by obtain⟨a,b,c,d⟩:=e;obtain⟨a',j,c',d'⟩:=f;simp only[Ex.gt,decide_eq_true_eq,decide_eq_false_iff_not]at *;simp only[ne_eq,Prod.mk.injEq]at i;omega
theorem Ex.add_comm(e f:Ex):e.add f=f.add e:=by simp only[Ex.add];refine Ex.ext' ?_ ?_ ?_ ?_<;>simp only<;>omega
theorem Ex.zero_add(e:Ex):Ex.add (0,0,0,0) e=e:=by simp[Ex.add]
theorem Ex.gt_add{e f:Ex}(g:Ex):(g.add e).gt (g.add f)=e.gt f:=by rw[Bool.eq_iff_iff,Ex.gt_iff,Ex.gt_iff];simp only[Ex.add];omega
theorem Ex.nat_add{e f:Ex}(h:e.nat=true)(b:f.nat=true):(e.add f).nat=true:=by rw[Ex.nat_iff]at *;simp only[Ex.add];omega
theorem Ex.nat_get{e:Ex}(h:e.nat=true)(v:Nat):0<=e.get v:=by simp only[Ex.nat,decide_eq_true_eq]at h;unfold Ex.get;split<;>omega
abbrev aj:=Ex × Rat
def GK (l:List aj):Prop:=l.Pairwise (λs t=>s.1.gt t.1=true)
def bQ (l:List aj):Prop:=GK l/\∀t∈l,t.2≠0/\t.1.nat=true
def Lf (f:Ex->Rat):List aj->Rat
 | []=>0
 | t::l=>t.2*f t.1+Lf f l
def cf (l:List aj) (e:Ex):Rat:=Lf (λx=>if x=e then 1 else 0) l
def Ni (l r:List aj):Prop:=∀f,Lf f l=Lf f r
theorem Ni.refl(l:List aj):Ni l l:=λ_=>rfl
theorem Lc(f:Ex->Rat):Lf f []=0:=rfl
theorem oQ(f:Ex->Rat)(t:aj)(l:List aj):Lf f (t::l)=t.2*f t.1+Lf f l:=rfl
theorem nA(f:Ex->Rat)(l r:List aj):Lf f (l++r)=Lf f l+Lf f r:=by
 induction l with
 | nil=>simp only[List.nil_append,Lf];grind
 | cons t l b=>simp only[List.cons_append,Lf,b];grind
theorem xO(f:Ex->Rat)(c:Rat)(l:List aj):Lf (λe=>c*f e) l=c*Lf f l:=by
 induction l with
 | nil=>simp[Lf]
 | cons t l b=>simp only[Lf,b];grind
theorem QH(f g:Ex->Rat)(l:List aj):Lf (λe=>f e+g e) l=Lf f l+Lf g l:=by
 induction l with
 | nil=>simp only[Lf];grind
 | cons t l b=>simp only[Lf,b];grind
theorem Nj(l:List aj):Lf (λ_=>0) l=0:=by
 induction l with
 | nil=>rfl
 | cons t l b=>simp only[Lf,b];grind
theorem iZ{f g:Ex->Rat}{l:List aj}(h:∀t∈l,f t.1=g t.1):Lf f l=Lf g l:=by
 induction l with
 | nil=>rfl
 | cons t l d=>simp only[Lf,h t sM,d (λs b=>h s (by simp[b]))]
theorem zg(f:Ex->Rat)(g:aj->aj)(k:Ex->Rat)(l:List aj)(h:∀t∈l,(g t).2*f (g t).1=t.2*k t.1):Lf f (l.map g)=Lf k l:=by
 induction l with
 | nil=>rfl
 | cons t l d=>simp only[List.map_cons,Lf,h t sM,d (λs b=>h s (by simp[b]))]
theorem O3(f:Ex->Rat)(e:Ex)(l:List aj):Lf f l=cf l e*f e+Lf f (l.filter (λt=>t.1 != e)):=by
 induction l with
 | nil=>simp only[Lf,cf,List.filter_nil];grind
 | cons t l b =>
  unfold cf at *;by_cases h:t.1=e
  ·subst h;simp[Lf,b];grind
  ·have d:(t.1 != e)=true:=bne_iff_ne.2 h;simp[Lf,h,b,d];grind
theorem O4(e b:Ex)(l:List aj):cf (l.filter (λt=>t.1 != e)) b=if b=e then 0 else cf l b:=by
 induction l with
 | nil=>simp[cf,Lf]
 | cons t l d =>
  unfold cf at *;by_cases h:t.1=e
  ·subst h;simp only[List.filter_cons,bne_self_eq_false,Bool.false_eq_true,if_false,d,Lf];split
   ·rfl
   ·rename_i h;rw[if_neg (Ne.symm h)];grind
  ·have i:(t.1 != e)=true:=bne_iff_ne.2 h;simp only[List.filter_cons,i,if_true,Lf,d];split
   ·subst b;rw[if_neg h];grind
   ·grind
theorem BU:∀(n:Nat)(l:List aj),l.length<=n->(∀e,cf l e=0)->∀f,Lf f l=0
 | _,[],_,_,_=>rfl
 | 0,_::_,h,_,_=>by simp at h
 | n+1,t::l,hl,h,f=>by
  rw[O3 f t.1,h,BU n _ ?_ ?_]
  ·grind
  ·have:((t::l).filter (λs=>s.1 != t.1)).length<=l.length:=by
    simp only[List.filter_cons,bne_self_eq_false,Bool.false_eq_true,if_false];exact List.length_filter_le _ _
   simp at hl;omega
  ·intro e;rw[O4];split
   ·rfl
   ·exact h e
theorem pR(l r:List aj)(e:Ex):cf (l++r) e=cf l e+cf r e:=nA _ _ _
def GL (l:List aj):List aj:=l.map (λt=>(t.1,-t.2))
theorem GM(f:Ex->Rat)(l:List aj):Lf f (GL l)=- Lf f l:=by
 induction l with
 | nil=>simp[Lf,GL]
 | cons t l b=>simp only[GL,List.map_cons,Lf]at *;grind
theorem O5{l r:List aj}(h:∀e,cf l e=cf r e):Ni l r:=λf=>by have:=BU _ (l++GL r) (nL _) (λe=>by rw[pR];have:=h e;unfold cf at *;rw[GM];grind) f;rw[nA,GM]at this;grind
theorem Ni.cf{l r:List aj}(h:Ni l r)(e:Ex):cf l e=cf r e:=h _
theorem jK(e:Ex):cf [] e=0:=rfl
theorem bK(t:aj)(l:List aj)(e:Ex):cf (t::l) e=(if t.1=e then t.2 else 0)+cf l e:=by simp only[cf,Lf];split<;>grind
theorem oG{l:List aj}{e:Ex}(h:∀t∈l,t.1≠e):cf l e=0:=by
 induction l with
 | nil=>rfl
 | cons t l d=>rw[bK,d (λs b=>h s (by simp[b])),if_neg (h t sM)];grind
theorem GK.tail{t:aj}{l:List aj}(h:GK (t::l)):GK l:=(List.pairwise_cons.1 h).2
theorem GK.head{t:aj}{l:List aj}(h:GK (t::l)):∀s∈l,t.1.gt s.1=true:=(List.pairwise_cons.1 h).1
theorem bQ.nil:bQ []:=⟨List.Pairwise.nil,λ_ h=>by cases h⟩
theorem bQ.tail{t:aj}{l:List aj}(h:bQ (t::l)):bQ l:=⟨h.1.tail,λs b=>h.2 s (by simp[b])⟩
theorem bQ.cf_head{t:aj}{l:List aj}(h:bQ (t::l)):cf (t::l) t.1=t.2:=by rw[bK,if_pos rfl,oG (λs b=>(Ex.gt_ne (h.1.head s b)).symm)];grind
theorem bQ.cf_top{t:aj}{l:List aj}(h:bQ (t::l)){e:Ex}(he:e.gt t.1=true):cf (t::l) e=0:=by
 refine oG λs b=>?_;rcases List.mem_cons.1 b with rfl|b
 ·exact(Ex.gt_ne he).symm
 ·exact(Ex.gt_ne (Ex.gt_trans he (h.1.head s b))).symm
theorem bQ.inj:∀{l r:List aj},bQ l->bQ r->(∀e,cf l e=cf r e)->l=r
 | [],[],_,_,_=>rfl
 | [],t::r,_,hr,h=>absurd ((hr.cf_head).symm.trans (h t.1).symm) (hr.2 t (by simp)).1
 | t::l,[],hl,_,h=>absurd ((hl.cf_head).symm.trans (h t.1)) (hl.2 t (by simp)).1
 | t::l,s::r,hl,hr,h=>by
  have he:t.1=s.1:=by
   rcases hc:t.1.gt s.1 with _|_
   ·by_cases b:t.1=s.1
    ·exact b
    ·have d:=Ex.gt_total hc b;exact absurd (by rw[<-hr.cf_head,<-h];exact hl.cf_top d) (hr.2 s sM).1
   ·exact absurd (by rw[<-hl.cf_head,h];exact hr.cf_top hc) (hl.2 t sM).1
  have i:t.2=s.2:=by rw[<-hl.cf_head,<-hr.cf_head,h,he]
  have j:t=s:=Prod.ext he i;subst j;rw[bQ.inj hl.tail hr.tail λe=>?_];have:=h e;rw[bK,bK]at this;grind
theorem bQ.eqv_inj{l r:List aj}(b:bQ l)(d:bQ r)(h:Ni l r):l=r:=b.inj d h.cf
def ins:List aj->aj->List aj
 | [],m=>if m.2≠0/\m.1.nat=true then [m]else []
 | t::r,m=>if t.1.gt m.1 then t::ins r m else if t.1=m.1 then(if m.2+t.2≠0/\m.1.nat=true then(m.1,m.2+t.2)::r else r)else if m.2≠0/\m.1.nat=true then m::t::r else t::r
theorem Nk{l:List aj}{m s:aj}(h:s∈ins l m):s.1=m.1\/s∈l:=by
 induction l with
 | nil=>unfold ins at h;split at h<;>simp at h;exact .inl (by rw[h])
 | cons t r b =>
  unfold ins at h;split at h
  ·rcases List.mem_cons.1 h with rfl|h
   ·exact .inr sM
   ·exact(b h).imp id (λh=>by simp[h])
  ·split at h
   ·split at h
    ·rcases List.mem_cons.1 h with rfl|h
     ·exact .inl rfl
     ·exact .inr (by simp[h])
    ·exact .inr (by simp[h])
   ·split at h
    ·rcases List.mem_cons.1 h with rfl|h
     ·exact .inl rfl
     ·exact .inr h
    ·exact .inr h
theorem bQ.ins{l:List aj}{m:aj}(h:bQ l):bQ (ins l m):=by
 induction l with
 | nil =>
  unfold Q.ins;split
  ·rename_i h;exact⟨List.pairwise_singleton _ _,λs b=>by simp at b;subst b;exact h⟩
  ·exact bQ.nil
 | cons t r j =>
  unfold Q.ins;split
  ·rename_i hg;refine⟨List.pairwise_cons.2 ⟨λs b=>?_,(j h.tail).1⟩,λs b=>?_⟩
   ·rcases Nk b with e|b
    ·rw[e];exact hg
    ·exact h.1.head s b
   ·rcases List.mem_cons.1 b with rfl|b
    ·exact h.2 _ sM
    ·exact(j h.tail).2 s b
  ·rename_i hg;split
   ·rename_i he;split
    ·rename_i hc;refine⟨List.pairwise_cons.2 ⟨λs b=>?_,h.1.tail⟩,λs b=>?_⟩
     ·have:=h.1.head s b;rw[he]at this;exact this
     ·rcases List.mem_cons.1 b with rfl|b
      ·exact hc
      ·exact h.2 s (by simp[b])
    ·exact h.tail
   ·rename_i i;split
    ·rename_i hc;have d:=Ex.gt_total (by simpa using hg) i;refine⟨List.pairwise_cons.2 ⟨λs b=>?_,h.1⟩,λs b=>?_⟩
     ·rcases List.mem_cons.1 b with rfl|b
      ·exact d
      ·exact Ex.gt_trans d (h.1.head s b)
     ·rcases List.mem_cons.1 b with rfl|b
      ·exact hc
      ·exact h.2 s b
    ·exact h
theorem We{l:List aj}{m:aj}(h:bQ l)(e:Ex):cf (ins l m) e=cf l e+if m.1.nat=true/\m.1=e then m.2 else 0:=by
 induction l with
 | nil=>unfold ins;split<;>simp only[bK,jK]<;>grind
 | cons t r b =>
  unfold ins;split
  ·rw[bK,b h.tail,bK];grind
  ·split
   ·rename_i he;have:=(h.2 t sM).2;split<;>simp only[bK]<;>grind
   ·split<;>simp only[bK]<;>grind
def canon (l:List aj):List aj:=l.foldl ins []
theorem Fe{l r:List aj}(h:bQ r):bQ (l.foldl ins r)/\∀e,cf (l.foldl ins r) e=cf r e+if e.nat=true then cf l e else 0:=by
 induction l generalizing r with
 | nil=>exact⟨h,λe=>by simp only[List.foldl_nil,jK];split<;>grind⟩
 | cons t l i =>
  obtain⟨b,d⟩:=i (h.ins (m:=t));refine⟨b,λe=>?_⟩;rw[List.foldl_cons,d,We h,bK];grind
theorem fB(l:List aj):bQ (canon l):=(Fe bQ.nil).1
theorem nW(l:List aj)(e:Ex):cf (canon l) e=if e.nat=true then cf l e else 0:=by have:=(Fe (l:=l) bQ.nil).2 e;rw[jK]at this;unfold canon;rw[this];grind
def dX (l:List aj):Prop:=∀t∈l,t.1.nat=true
theorem iB{l:List aj}(h:dX l):Ni (canon l) l:=O5 λe=>by
 rw[nW];split
 ·rfl
 ·rename_i b;exact(oG λt d he=>b (by rw[<-he];exact h t d)).symm
theorem QI{l r:List aj}(h:dX l)(b:bQ r)(he:Ni r l):canon l=r:=(fB l).inj b λe=>by rw[(iB h).cf,he.cf]
theorem bQ.nat{l:List aj}(h:bQ l):dX l:=λt b=>(h.2 t b).2
theorem BV{l:List aj}(h:bQ l):canon l=l:=QI h.nat h (Ni.refl _)
theorem uA{l r:List aj}(h:∀e,e.nat=true->cf l e=cf r e):canon l=canon r:=(fB l).inj (fB r) λe=>by
 rw[nW,nW];split
 ·rename_i he;exact h e he
 ·rfl
theorem Ni.canon{l r:List aj}(h:Ni l r):canon l=canon r:=uA λe _=>h.cf e
end Q
end
section
namespace Q
abbrev Pt:=Rat × Rat × Rat × Rat
def Pt.get (x:Pt) (v:Nat):Rat:=match v with|0=>x.1|1=>x.2.1|2=>x.2.2.1|_=>x.2.2.2
def Pt.put (x:Pt) (v:Nat) (c:Rat):Pt:=match v with|0=>(c,x.2.1,x.2.2.1,x.2.2.2)|1=>(x.1,c,x.2.2.1,x.2.2.2)|2=>(x.1,x.2.1,c,x.2.2.2)|_=>(x.1,x.2.1,x.2.2.1,c)
def xP (x:Pt) (e:Ex):Rat:=x.1^e.1.toNat * x.2.1^e.2.1.toNat * x.2.2.1^e.2.2.1.toNat * x.2.2.2^e.2.2.2.toNat
def ev (x:Pt) (l:List aj):Rat:=Lf (xP x) l
theorem jv(x:Pt):ev x []=0:=rfl
theorem lu(x:Pt)(t:aj)(l:List aj):ev x (t::l)=t.2*xP x t.1+ev x l:=rfl
theorem pU(x:Pt)(l r:List aj):ev x (l++r)=ev x l+ev x r:=nA _ _ _
theorem nX{l:List aj}(h:dX l)(x:Pt):ev x (canon l)=ev x l:=(iB h) _
theorem qf(x:Rat)(m n:Nat):x^(m+n)=x^m*x^n:=by
 induction n with
 | zero=>simp[Rat.pow_zero]
 | succ n b=>rw[<-Nat.add_assoc,Rat.pow_succ,b,Rat.pow_succ];grind
theorem QJ(x:Rat)(m n:Nat):x^(m*n)=(x^m)^n:=by
 induction n with
 | zero=>simp[Rat.pow_zero]
 | succ n b=>rw[Nat.mul_succ,qf,b,Rat.pow_succ]
theorem Nl(x:Pt){e f:Ex}(he:e.nat=true)(hf:f.nat=true):xP x (e.add f)=xP x e*xP x f:=by rw[Ex.nat_iff]at he hf;simp only[xP,Ex.add,Int.toNat_add,he,hf,qf];grind
def bJ (c:Rat):Rat:=if c<0 then -c else c
def bF:List aj->Rat
 | []=>0
 | t::l=>bJ t.2+bF l
theorem mM(l:List aj):0<=bF l:=by
 induction l with
 | nil=>exact Rat.le_refl
 | cons t l b=>simp only[bF,bJ];split<;>grind
theorem zh{T:Rat}(l:1<=T){m n:Nat}(h:m<=n):0<=T^m/\T^m<=T^n:=by
 obtain⟨d,rfl⟩:=Nat.exists_eq_add_of_le h
 have b:∀k:Nat,1<=T^k:=by
  intro k
  induction k with
  | zero=>rw[Rat.pow_zero];exact Rat.le_refl
  | succ k i =>
   rw[Rat.pow_succ];have:1*T<=T^k*T:=Rat.mul_le_mul_of_nonneg_right i gR;grind
 have j:=b m;have e:=b d;refine⟨gR,?_⟩;rw[qf];have:T^m*1<=T^m*T^d:=Rat.mul_le_mul_of_nonneg_left e gR;grind
def Nn (K:Nat) (e:Ex):Nat:=e.1.toNat+K*(e.2.1.toNat+K*(e.2.2.1.toNat+K*e.2.2.2.toNat))
def XJ (K:Nat) (T:Rat):Pt:=(T,T^K,T^(K*K),T^(K*(K*K)))
theorem Np(K:Nat)(T:Rat)(e:Ex):xP (XJ K T) e=T^Nn K e:=by simp only[xP,XJ,Nn,Nat.mul_add,qf,<-QJ,Nat.mul_assoc];grind
theorem QK{K:Nat}{e f:Ex}(he:e.nat=true)(hf:f.nat=true)(h:e.gt f=true)(b0:f.1<K)(b1:f.2.1<K)(n:f.2.2.1<K):Nn K f<Nn K e:=by
 rw[Ex.gt_iff]at h;rw[Ex.nat_iff]at he hf;obtain⟨a,b,c,d⟩:=e;obtain⟨a',m,c',d'⟩:=f;simp only[Nn]at *
 have key:∀p q p' j:Nat,p' < K->j < q->p'+K*j < p+K*q:=by intro p q p' j l i;have:K*(j+1)<=K*q:=Nat.mul_le_mul_left K i;rw[Nat.mul_succ]at this;omega
 have key2:∀p q p' j:Nat,p' < p->j=q->p'+K*j < p+K*q:=by intro p q p' j l i;rw[i];omega
 rcases h with h|⟨h,i⟩
 ·exact key _ _ _ _ oM (key _ _ _ _ oM (key _ _ _ _ oM oM))
 ·rcases i with i|⟨i,k⟩
  ·exact key _ _ _ _ oM (key _ _ _ _ oM (key2 _ _ _ _ oM oM))
  ·rcases k with k|⟨k,o⟩
   ·exact key _ _ _ _ oM (key2 _ _ _ _ oM (by rw[h,i]))
   ·exact key2 _ _ _ _ oM (by rw[h,i,k])
theorem BZ{K:Nat}{T:Rat}(d:1<=T)(N:Nat):∀l:List aj,(∀t∈l,Nn K t.1<=N)->- (bF l*T^N)<=ev (XJ K T) l/\ev (XJ K T) l<=bF l*T^N
 | [],_=>by simp only[jv,bF];constructor<;>grind
 | t::l,h=>by
  obtain⟨j,k⟩:=BZ d N l (λs i=>h s (by simp[i]));obtain⟨b,e⟩:=zh d (h t sM);rw[lu,Np];simp only[bF];have m:bJ t.2*T^Nn K t.1<=bJ t.2*T^N:=Rat.mul_le_mul_of_nonneg_left e (by unfold bJ;split<;>grind)
  have n:- (bJ t.2*T^Nn K t.1)<=t.2*T^Nn K t.1/\t.2*T^Nn K t.1<=bJ t.2*T^Nn K t.1:=by
   unfold bJ;split
   ·have:0<=(-t.2)*T^Nn K t.1:=Rat.mul_nonneg gR b;constructor<;>grind
   ·have:0<=t.2*T^Nn K t.1:=Rat.mul_nonneg gR b;constructor<;>grind
  constructor<;>grind
theorem Ff:∀l:List aj,∃K:Nat,∀t∈l,t.1.1<K/\t.1.2.1<K/\t.1.2.2.1<K
 | []=>⟨0,λ_ h=>by cases h⟩
 | t::l=>by
  obtain⟨K,h⟩:=Ff l;refine⟨K+t.1.1.toNat+t.1.2.1.toNat+t.1.2.2.1.toNat+1,λs b=>?_⟩;rcases List.mem_cons.1 b with rfl|b
  ·omega
  ·have:=h s b;omega
theorem XK{t:aj}{l:List aj}(h:bQ (t::l)):∃x,ev x (t::l)≠0:=by
 obtain⟨K,b⟩:=Ff (t::l);have hc:=(h.2 t sM).1;have o:=mM l;have i:0<bJ t.2:=by unfold bJ;split<;>grind
 have e:0<=(bJ t.2)⁻¹:=Rat.le_of_lt (Rat.inv_pos.2 i);obtain⟨T,p⟩:∃T,T=bF l*(bJ t.2)⁻¹+1:=⟨_,rfl⟩;have k:1<=T:=by have:=Rat.mul_nonneg o e;grind
 have hb:bF l<bJ t.2*T:=by
  have q:(bJ t.2)⁻¹*bJ t.2=1:=Rat.inv_mul_cancel _ gR;have m:bJ t.2*T=bF l+bJ t.2:=by rw[p];grind
  rw[m];grind
 refine⟨XJ K T,λh0=>?_⟩;rw[lu,Np]at h0;obtain⟨N,n⟩:∃N,N=Nn K t.1:=⟨_,rfl⟩;rw[<-n]at h0
 cases N with
 | zero =>
  cases l with
  | nil=>rw[jv,Rat.pow_zero]at h0;grind
  | cons s l =>
   have:=QK (h.2 t sM).2 (h.2 s sM).2 (h.1.head s sM) (b s sM).1 (b s sM).2.1 (b s sM).2.2;omega
 | succ N =>
  have r:=BZ (K:=K) k N l (λs j=>by
   have:=QK (h.2 t sM).2 (h.2 s (by simp[j])).2 (h.1.head s j) (b s (by simp[j])).1 (b s (by simp[j])).2.1 (b s (by simp[j])).2.2
   omega)
  have hp:0<T^N:=Rat.pow_pos gR;have d:bF l*T^N<bJ t.2*T*T^N:=Rat.mul_lt_mul_of_pos_right hb hp;rw[Rat.pow_succ]at h0;unfold bJ at d;split at d<;>grind
theorem zi{l r:List aj}(e:bQ l)(j:bQ r)(h:∀x,ev x l=ev x r):l=r:=by
 have i:dX (l++GL r):=λt b=>by
  rcases List.mem_append.1 b with b|b
  ·exact e.nat t b
  ·simp only[GL,List.mem_map]at b;obtain⟨s,m,rfl⟩:=b;exact j.nat s m
 have hz:∀x,ev x (canon (l++GL r))=0:=λx=>by have:=h x;rw[nX i,pU];unfold ev at *;rw[GM];grind
 have d:canon (l++GL r)=[]:=by
  cases hc:canon (l++GL r)with
  | nil=>rfl
  | cons t q =>
   obtain⟨x,k⟩:=XK (by rw[<-hc];exact fB _);rw[<-hc]at k;exact absurd (hz x) k
 refine e.eqv_inj j λf=>?_;have:=iB i f;rw[d,nA,GM,Lc]at this;grind
theorem O6{l r:List aj}(b:dX l)(d:bQ r)(h:∀x,ev x l=ev x r):canon l=r :=
 zi (fB _) d λx=>by rw[nX b,h]
end Q
end
section
namespace Q
structure Sz where
 D:Nat
 B:Nat
 E:Nat
 N:Nat
def Dv (D:Nat) (c:Rat):Prop:=∃k:Int,c*(D:Rat)=(k:Rat)
structure Bd (s:Sz) (l:List aj):Prop where
 n:l.length<=s.N
 e:∀t∈l,-(s.E:Int)<=t.1.1/\t.1.1<=s.E/\-(s.E:Int)<=t.1.2.1/\t.1.2.1<=s.E/\-(s.E:Int)<=t.1.2.2.1/\t.1.2.2.1<=s.E/\-(s.E:Int)<=t.1.2.2.2/\t.1.2.2.2<=s.E
 d:∀t∈l,Dv s.D t.2
 b:bF l<=(s.B:Rat)
def Sz.add (s t:Sz):Sz:=⟨Nat.lcm s.D t.D,s.B+t.B,max s.E t.E,s.N+t.N⟩
def Sz.mul (s t:Sz):Sz:=⟨s.D*t.D,s.B*t.B,s.E+t.E,s.N*t.N⟩
def Sz.ok (s:Sz):Prop:=0<s.D/\s.D<65536/\s.B<2^1000/\s.E<1000000/\s.N<1000000
instance (s:Sz):Decidable s.ok:=by unfold Sz.ok;infer_instance
def Sz.le (s t:Sz):Prop:=s.D∣t.D/\s.B<=t.B/\s.E<=t.E/\s.N<=t.N
instance (s t:Sz):Decidable (s.le t):=by unfold Sz.le;infer_instance
theorem Dv.dvd{D b:Nat}{c:Rat}(h:Dv D c)(hd:D∣b):Dv b c:=by obtain⟨k,d⟩:=h;obtain⟨m,rfl⟩:=hd;exact⟨k*m,by rw[Rat.intCast_mul,iN,Rat.natCast_mul];grind⟩
theorem Dv.add{D:Nat}{c d:Rat}(h:Dv D c)(b:Dv D d):Dv D (c+d):=by obtain⟨k,e⟩:=h;obtain⟨m,hm⟩:=b;exact⟨k+m,by rw[Rat.intCast_add];grind⟩
theorem Dv.mul{D b:Nat}{c d:Rat}(h:Dv D c)(e:Dv b d):Dv (D*b) (c*d):=by obtain⟨k,i⟩:=h;obtain⟨m,hm⟩:=e;exact⟨k*m,by rw[Rat.intCast_mul,Rat.natCast_mul];grind⟩
theorem Dv.neg{D:Nat}{c:Rat}(h:Dv D c):Dv D (-c):=by obtain⟨k,b⟩:=h;exact⟨-k,by rw[Rat.intCast_neg];grind⟩
theorem Dv.zero(D:Nat):Dv D 0:=⟨0,sM⟩
theorem Dv.int(D:Nat)(k:Int):Dv D k:=⟨k*D,by rw[Rat.intCast_mul,iN]⟩
theorem fV(c:Rat):0<=bJ c:=by unfold bJ;split<;>grind
theorem Ca(c d:Rat):bJ (c+d)<=bJ c+bJ d:=by unfold bJ;split<;>split<;>split<;>grind
theorem IY(c:Rat):bJ (-c)=bJ c:=by unfold bJ;split<;>split<;>grind
theorem zk(c:Rat):c<0\/0<=c:=gR
theorem qQ{c:Rat}(h:c<0):bJ c=-c:=by unfold bJ;rw[if_pos h]
theorem bT{c:Rat}(h:0<=c):bJ c=c:=by unfold bJ;rw[if_neg gR]
theorem jS(c d:Rat):bJ (c*d)=bJ c*bJ d:=by
 rcases zk c with hc|hc<;>rcases zk d with hd|hd
 ·have:=Rat.mul_pos (gR:0 < -c) (gR:0 < -d);have e:-c*-d=c*d:=gR;rw[e]at this;rw[qQ hc,qQ hd,bT (Rat.le_of_lt this),e]
 ·have:=Rat.mul_nonneg (gR:0<=-c) hd;have e:-c*d=-(c*d):=gR;rw[e]at this;rw[qQ hc,bT hd,e,<-IY,bT this]
 ·have:=Rat.mul_nonneg hc (gR:0<=-d);have e:c*-d=-(c*d):=gR;rw[e]at this;rw[bT hc,qQ hd,e,<-IY,bT this]
 ·rw[bT hc,bT hd,bT (Rat.mul_nonneg hc hd)]
theorem uB(l r:List aj):bF (l++r)=bF l+bF r:=by
 induction l with
 | nil=>simp only[List.nil_append,bF];grind
 | cons t l b=>simp only[List.cons_append,bF,b];grind
theorem uC{l:List aj}{t:aj}(h:t∈l):bJ t.2<=bF l:=by
 induction l with
 | nil=>cases h
 | cons s l b =>
  simp only[bF];rcases List.mem_cons.1 h with rfl|h
  ·have:=mM l;grind
  ·have:=b h;have:=fV s.2;grind
theorem GN{l:List aj}{g:aj->aj}{c:Rat}(h:∀t∈l,bJ (g t).2<=bJ t.2*c):bF (l.map g)<=bF l*c:=by
 induction l with
 | nil=>simp only[List.map_nil,bF];grind
 | cons t l d =>
  have:=h t sM;have:=d (λs b=>h s (by simp[b]));simp only[List.map_cons,bF];grind
theorem Bd.nil(s:Sz):Bd s []:=⟨Nat.zero_le _,(λt h=>absurd h sM),(λt h=>absurd h sM),by simp only[bF];exact Rat.natCast_nonneg⟩
theorem Bd.sub{s:Sz}{l r:List aj}(h:Bd s l)(i:r.Sublist l):Bd s r where
 n:=Nat.le_trans i.length_le h.n
 e:=λx j=>h.e x (i.subset j)
 d:=λx j=>h.d x (i.subset j)
 b:=by
  refine Rat.le_trans ?_ h.b;clear h
  induction i with
  | slnil=>exact Rat.le_refl
  | cons t _ k=>have:=fV t.2;simp only[bF];grind
  | cons_cons t _ k=>simp only[bF];grind
theorem Ld(l:List aj)(m:aj):(ins l m).length<=l.length+1:=by
 induction l with
 | nil=>unfold ins;split<;>simp
 | cons t r b=>unfold ins;split<;>(try split)<;>(try split)<;>simp<;>omega
theorem Cb(l:List aj)(m:aj):bF (ins l m)<=bF l+bJ m.2:=by
 have:=fV m.2
 induction l with
 | nil=>unfold ins;split<;>simp only[bF]<;>grind
 | cons t r b =>
  have:=Ca m.2 t.2;have:=fV t.2;unfold ins;split<;>(try split)<;>(try split)<;>simp only[bF]<;>grind
theorem Wh{D:Nat}{l:List aj}{m:aj}(h:∀t∈l,Dv D t.2)(hm:Dv D m.2):∀t∈ins l m,Dv D t.2:=by
 induction l with
 | nil=>unfold ins;split<;>simp;exact hm
 | cons t r d =>
  unfold ins;split
  ·intro s b;rcases List.mem_cons.1 b with rfl|b
   ·exact h _ sM
   ·exact d (λs b=>h s (by simp[b])) s b
  ·split
   ·split
    ·intro s b;rcases List.mem_cons.1 b with rfl|b
     ·exact hm.add (h t sM)
     ·exact h s (by simp[b])
    ·intro s b;exact h s (by simp[b])
   ·split
    ·intro s b;rcases List.mem_cons.1 b with rfl|b
     ·exact hm
     ·exact h s b
    ·exact h
theorem QL{p:Ex->Prop}{l:List aj}{m:aj}(h:∀t∈l,p t.1)(hm:p m.1):∀t∈ins l m,p t.1:=λt b=>by
 rcases Nk b with e|b
 ·rw[e];exact hm
 ·exact h t b
theorem Cc{p:Ex->Prop}{D:Nat}:∀{l r:List aj},(∀t∈l,p t.1)->(∀t∈r,p t.1)->(∀t∈l,Dv D t.2)->(∀t∈r,Dv D t.2) ->
  (l.foldl ins r).length<=r.length+l.length/\bF (l.foldl ins r)<=bF r+bF l/\(∀t∈l.foldl ins r,p t.1)/\∀t∈l.foldl ins r,Dv D t.2
 | [],r,_,h2,_,h4=>⟨by simp,by simp only[List.foldl_nil,bF];grind,h2,h4⟩
 | m::l,r,h1,h2,h3,h4=>by
  have:=Cc (l:=l) (r:=ins r m) (λt b=>h1 t (by simp[b])) (QL h2 (h1 m sM)) (λt b=>h3 t (by simp[b])) (Wh h4 (h3 m sM));have d:=Ld r m;have e:=Cb r m;refine⟨?_,?_,this.2.2.1,this.2.2.2⟩
  ·simp only[List.foldl_cons,List.length_cons];omega
  ·have:=this.2.1;simp only[List.foldl_cons,bF];grind
theorem Bd.canon{s:Sz}{l:List aj}(h:Bd s l):Bd s (canon l):=by
 have:=Cc (l:=l) (r:=[]) (p:=λe=>-(s.E:Int)<=e.1/\e.1<=s.E/\-(s.E:Int)<=e.2.1/\e.2.1<=s.E/\-(s.E:Int)<=e.2.2.1/\e.2.2.1<=s.E/\-(s.E:Int)<=e.2.2.2/\e.2.2.2<=s.E) (D:=s.D)
  h.e (λ_ h=>by cases h) h.d (λ_ h=>by cases h)
 refine⟨Nat.le_trans (by simpa[Q.canon]using this.1) h.n,this.2.2.1,this.2.2.2,Rat.le_trans this.2.1 ?_⟩;have:=h.b;simp only[bF];grind
def mulT (s t:aj):aj:=(s.1.add t.1,s.2*t.2)
def prods (l r:List aj):List aj:=l.flatMap λs=>r.map (mulT s)
theorem zl(r:List aj):prods [] r=[]:=rfl
theorem kJ(s:aj)(l r:List aj):prods (s::l) r=r.map (mulT s)++prods l r:=rfl
theorem dX.append{l r:List aj}(h:dX l)(d:dX r):dX (l++r):=λt b=>by
 rcases List.mem_append.1 b with b|b
 ·exact h t b
 ·exact d t b
theorem dX.mulT{s:aj}{r:List aj}(b:s.1.nat=true)(h:dX r):dX (r.map (mulT s)):=λt d=>by obtain⟨u,hu,rfl⟩:=List.mem_map.1 d;exact Ex.nat_add b (h u hu)
theorem dX.tail{s:aj}{l:List aj}(h:dX (s::l)):dX l:=λt b=>h t (by simp[b])
theorem dX.head{s:aj}{l:List aj}(h:dX (s::l)):s.1.nat=true:=h s sM
theorem dX.nil:dX []:=λ_ h=>by cases h
theorem dX.prods:∀{l r:List aj},dX l->dX r->dX (prods l r)
 | [],_,_,_=>dX.nil
 | _::_,_,h,h'=>(dX.mulT h.head h').append (dX.prods h.tail h')
theorem IZ{s:aj}{r:List aj}(x:Pt)(b:s.1.nat=true)(h:dX r):ev x (r.map (mulT s))=s.2*xP x s.1*ev x r:=by
 induction r with
 | nil=>simp only[List.map_nil,jv];grind
 | cons t r d=>rw[List.map_cons,lu,lu,d h.tail];simp only[mulT];rw[Nl x b h.head];grind
theorem I1:∀{l r:List aj}(x:Pt),dX l->dX r->ev x (prods l r)=ev x l*ev x r
 | [],_,x,_,_=>by rw[zl,jv];grind
 | s::l,r,x,h,h'=>by rw[kJ,pU,IZ x h.head h',I1 x h.tail h',lu];grind
theorem EK(s:aj)(r:List aj):bF (r.map (mulT s))=bJ s.2*bF r:=by
 induction r with
 | nil=>simp only[List.map_nil,bF];grind
 | cons t r b=>simp only[List.map_cons,bF,b,mulT,jS];grind
theorem Ce(l r:List aj):bF (prods l r)=bF l*bF r:=by
 induction l with
 | nil=>simp only[zl,bF];grind
 | cons s l b=>rw[kJ,uB,b,EK];simp only[bF];grind
theorem xQ(l r:List aj):(prods l r).length=l.length*r.length:=by
 induction l with
 | nil=>simp[zl]
 | cons s l b=>rw[kJ];simp[b,Nat.add_mul];omega
theorem nC{l r:List aj}{t:aj}(h:t∈prods l r):∃a∈l,∃b∈r,t=mulT a b:=by simp only[prods,List.mem_flatMap,List.mem_map]at h;obtain⟨a,ha,b,hb,e⟩:=h;exact⟨a,ha,b,hb,e.symm⟩
theorem sD{a b c d:Rat}(e:a<=b)(h:c<=d)(i:0<=a)(j:0<=d):a*c<=b*d:=by have k:a*c<=a*d:=Rat.mul_le_mul_of_nonneg_left h i;have l:a*d<=b*d:=Rat.mul_le_mul_of_nonneg_right e j;grind
theorem Bd.prods{s t:Sz}{l r:List aj}(h:Bd s l)(i:Bd t r):Bd (s.mul t) (prods l r) where
 n:=by rw[xQ];exact Nat.mul_le_mul h.n i.n
 e:=λx j=>by obtain⟨a,ha,b,hb,rfl⟩:=nC j;have:=h.e a ha;have:=i.e b hb;simp only[mulT,Ex.add,Sz.mul];omega
 d:=λx j=>by obtain⟨a,ha,b,hb,rfl⟩:=nC j;exact(h.d a ha).mul (i.d b hb)
 b:=by rw[Ce];simp only[Sz.mul];rw[Rat.natCast_mul];exact sD h.b i.b (mM _) (Rat.natCast_nonneg)
end Q
end
section
namespace Q
abbrev e0:Ex:=(0,0,0,0)
def bW (c:Rat):List aj:=if c=0 then []else [(e0,c)]
def Ap (v:Nat):Ex:=Ex.put e0 v 1
def sF (v:Nat):List aj:=[(Ap v,1)]
def oH (p q:List aj):List aj:=canon (p++q)
def bS (p:List aj) (c:Rat):List aj:=if c=0 then []else p.map λt=>(t.1,t.2*c)
def gp (p q:List aj):List aj:=oH p (bS q (-1))
def aZ (p q:List aj):List aj:=canon (prods p q)
def rF (p:List aj):Nat->List aj
 | 0=>bW 1
 | n+1=>aZ (rF p n) p
def aD (p:List aj) (v:Nat):Int:=p.foldl (λd t=>max d (t.1.get v)) (-1)
def aR (p:List aj) (v:Nat) (n:Int):List aj:=(p.filter λt=>t.1.get v=n).map λt=>(t.1.put v 0,t.2)
def aB (p:List aj) (v:Nat):List (List aj):=(List.range (aD p v+1).toNat).map λn:Nat=>aR p v n
def gU (p:List aj) (v:Nat) (i:Int):List aj:=p.map λt=>(t.1.put v (t.1.get v+i),t.2)
def fromL (v:Nat):Int->List (List aj)->List aj
 | _,[]=>[]
 | i,p::l=>gU p v i++fromL v (i+1) l
def uD (l:List (List aj)) (v:Nat):List aj:=canon (fromL v 0 l)
def aS (p:List aj) (v:Nat):List aj:=(p.filter λt=>0<t.1.get v).map λt=>(t.1.put v (t.1.get v-1),t.2*(t.1.get v:Rat))
def evalL (p:List aj) (v:Nat) (c:Rat):List aj:=p.map λt=>(t.1.put v 0,t.2*c^(t.1.get v).toNat)
def xR (p:List aj) (v:Nat) (c:Rat):List aj:=canon (evalL p v c)
def Zi (p:List aj) (v:Nat) (b:List aj):List aj:=(aB p v).foldr (λc out=>oH (aZ out b) c) []
theorem bQ.const(c:Rat):bQ (bW c):=by
 unfold bW;split
 ·exact bQ.nil
 ·rename_i h;exact⟨List.pairwise_cons.2 ⟨λ_ h=>(by cases h),List.Pairwise.nil⟩,λt b=>by simp at b;subst b;exact⟨h,rfl⟩⟩
theorem O7(v:Nat):(Ap v).nat=true:=by rcases v with _|_|_|v<;>rfl
theorem bQ.var(v:Nat):bQ (sF v) :=
 ⟨List.pairwise_cons.2 ⟨λ_ h=>(by cases h),List.Pairwise.nil⟩,λt b=>by simp[sF]at b;subst b;exact⟨(by decide:(1:Rat)≠0),O7 v⟩⟩
theorem bQ.add(p q:List aj):bQ (oH p q):=fB _
theorem bQ.mul(p q:List aj):bQ (aZ p q):=fB _
theorem bQ.sub(p q:List aj):bQ (gp p q):=fB _
theorem jm{a b:Rat}(ha:a≠0)(hb:b≠0):a*b≠0:=by
 intro h;rcases Rat.mul_eq_zero.1 h with h|h
 ·exact ha h
 ·exact hb h
theorem GK.map{l:List aj}{g:aj->aj}(h:GK l)(hg:∀s∈l,∀t∈l,s.1.gt t.1=true->(g s).1.gt (g t).1=true):GK (l.map g):=by unfold GK at *;rw[List.pairwise_map];exact h.imp_of_mem λb d=>hg _ b _ d
theorem bQ.scale{p:List aj}(h:bQ p)(c:Rat):bQ (bS p c):=by
 unfold bS;split
 ·exact bQ.nil
 ·rename_i hc;refine⟨h.1.map λ_ _ _ _ h=>h,λt d=>?_⟩;obtain⟨s,b,rfl⟩:=List.mem_map.1 d;exact⟨jm (h.2 s b).1 hc,(h.2 s b).2⟩
theorem bQ.pow(p:List aj):∀n,bQ (rF p n)
 | 0=>bQ.const _
 | _+1=>fB _
theorem Ex.put_nat{e:Ex}(h:e.nat=true)(v:Nat){x:Int}(b:0<=x):(e.put v x).nat=true:=by rw[Ex.nat_iff]at *;rcases v with _|_|_|v<;>simp only[Ex.put]<;>omega
theorem Ex.get_put(e:Ex)(v:Nat)(x:Int):(e.put v x).get v=x:=by rcases v with _|_|_|v<;>rfl
theorem Ex.put_get(e:Ex)(v:Nat):e.put v (e.get v)=e:=by rcases v with _|_|_|v<;>rfl
theorem Ex.put_put(e:Ex)(v:Nat)(x y:Int):(e.put v x).put v y=e.put v y:=by rcases v with _|_|_|v<;>rfl
theorem Ex.gt_put_same{e f:Ex}(v:Nat)(h:e.gt f=true)(hv:e.get v=f.get v)(x:Int):(e.put v x).gt (f.put v x)=true:=by rw[Ex.gt_iff]at *;obtain⟨a,b,c,d⟩:=e;obtain⟨a',i,c',d'⟩:=f;rcases v with _|_|_|v<;>simp only[Ex.put,Ex.get]at h hv ⊢<;>subst hv<;>simp only[Int.lt_irrefl,and_false,or_false,false_or,true_and]at h ⊢<;>omega
theorem Ex.gt_put_shift{e f:Ex}(v:Nat)(h:e.gt f=true)(k:Int):(e.put v (e.get v+k)).gt (f.put v (f.get v+k))=true:=by rw[Ex.gt_iff]at *;rcases v with _|_|_|v<;>simp only[Ex.put,Ex.get]at *<;>omega
theorem GK.sub{l r:List aj}(h:GK l)(b:r.Sublist l):GK r:=List.Pairwise.sublist b h
theorem bQ.sublist{l r:List aj}(h:bQ l)(b:r.Sublist l):bQ r:=⟨h.1.sub b,λt d=>h.2 t (b.subset d)⟩
theorem bQ.coeff{p:List aj}(h:bQ p)(v:Nat)(n:Int):bQ (aR p v n):=by
 unfold aR;have d:=h.sublist (List.filter_sublist (l:=p) (p:=λt=>t.1.get v=n));refine⟨d.1.map λs b t i e=>Ex.gt_put_same v e ?_ 0,λt i=>?_⟩
 ·have j:=(List.mem_filter.1 b).2;have k:=(List.mem_filter.1 i).2;simp only[decide_eq_true_eq]at j k;rw[j,k]
 ·obtain⟨s,b,rfl⟩:=List.mem_map.1 i;exact⟨(d.2 s b).1,Ex.put_nat (d.2 s b).2 v (Int.le_refl _)⟩
theorem I4{n:Int}(h:n≠0):(n:Rat)≠0:=λb=>h (Rat.intCast_inj.1 (by rw[b];rfl))
theorem bQ.pder{p:List aj}(h:bQ p)(v:Nat):bQ (aS p v):=by unfold aS;have d:=h.sublist (List.filter_sublist (l:=p) (p:=λt=>0<t.1.get v));refine⟨d.1.map λs b t i e=>Ex.gt_put_shift v e (-1),λt i=>?_⟩;obtain⟨s,b,rfl⟩:=List.mem_map.1 i;have j:=(List.mem_filter.1 b).2;simp only[decide_eq_true_eq]at j;exact⟨jm (d.2 s b).1 (I4 oM),Ex.put_nat (d.2 s b).2 v oM⟩
theorem qg(x:Pt)(c:Rat):ev x (bW c)=c:=by
 unfold bW;split
 ·rename_i h;rw[jv,h]
 ·rw[lu,jv];simp[xP];grind
theorem QM(x:Pt)(v:Nat):ev x (sF v)=x.get v:=by
 rw[sF,lu,jv]
 have:xP x (Ap v)=x.get v:=by rcases v with _|_|_|v<;>simp[Ap,Ex.put,Pt.get,xP,Rat.pow_succ,Rat.pow_zero]
 rw[this];grind
theorem ev_add(x:Pt){p q:List aj}(h:dX p)(b:dX q):ev x (oH p q)=ev x p+ev x q:=by rw[oH,nX (h.append b),pU]
theorem ev_scale(x:Pt)(p:List aj)(c:Rat):ev x (bS p c)=ev x p*c:=by
 unfold bS;split
 ·rename_i h;rw[jv,h];grind
 ·unfold ev;rw[zg _ _ (λe=>c*xP x e) p (λt _=>gR),xO];grind
theorem ev_sub(x:Pt){p q:List aj}(h:dX p)(b:bQ q):ev x (gp p q)=ev x p-ev x q:=by rw[gp,ev_add x h (b.scale _).nat,ev_scale];grind
theorem ev_mul(x:Pt){p q:List aj}(h:dX p)(b:dX q):ev x (aZ p q)=ev x p*ev x q:=by rw[aZ,nX (h.prods b),I1 x h b]
theorem ev_pow(x:Pt){p:List aj}(h:dX p):∀n,ev x (rF p n)=ev x p^n
 | 0=>by rw[rF,qg,Rat.pow_zero]
 | n+1=>by rw[rF,ev_mul x (bQ.pow p n).nat h,ev_pow x h n,Rat.pow_succ]
theorem GQ(x:Pt)(e:Ex)(v:Nat)(c:Rat):xP (x.put v c) e=xP x (e.put v 0)*c^(e.get v).toNat:=by rcases v with _|_|_|v<;>simp only[Pt.put,Ex.put,Ex.get,xP,Int.toNat_zero,Rat.pow_zero]<;>grind
theorem I5(x:Pt)(e:Ex)(v:Nat)(n:Int):xP x (e.put v n)=xP x (e.put v 0)*x.get v^n.toNat:=by rcases v with _|_|_|v<;>simp only[Pt.get,Ex.put,xP,Int.toNat_zero,Rat.pow_zero]<;>grind
theorem dX.evalL{p:List aj}(h:dX p)(v:Nat)(c:Rat):dX (evalL p v c):=λt d=>by obtain⟨s,b,rfl⟩:=List.mem_map.1 d;exact Ex.put_nat (h s b) v (Int.le_refl _)
theorem QN(x:Pt)(p:List aj)(v:Nat)(c:Rat):ev x (evalL p v c)=ev (x.put v c) p:=by unfold ev evalL;exact zg _ _ _ p λt _=>by rw[GQ];grind
theorem ev_eval(x:Pt){p:List aj}(h:dX p)(v:Nat)(c:Rat):ev x (xR p v c)=ev (x.put v c) p:=by rw[xR,nX (h.evalL v c),QN]
theorem gz(f:aj->Int):∀(p:List aj)(d:Int),d<=p.foldl (λd t=>max d (f t)) d/\(∀t∈p,f t<=p.foldl (λd t=>max d (f t)) d)/\(p.foldl (λd t=>max d (f t)) d=d\/∃t∈p,f t=p.foldl (λd t=>max d (f t)) d)
 | [],d=>⟨Int.le_refl _,(λ_ h=>by cases h),Or.inl rfl⟩
 | t::p,d=>by
  obtain⟨j,i,b⟩:=gz f p (max d (f t));refine⟨by simp only[List.foldl_cons];omega,λs e=>?_,?_⟩
  ·simp only[List.foldl_cons];rcases List.mem_cons.1 e with rfl|e
   ·omega
   ·exact i s e
  ·simp only[List.foldl_cons];rcases b with b|⟨s,e,b⟩
   ·rw[b];rcases Int.le_total d (f t)with h|h
    ·exact Or.inr ⟨t,sM,oM⟩
    ·exact Or.inl oM
   ·exact Or.inr ⟨s,by simp[e],b⟩
theorem sG(p:List aj)(v:Nat):-1<=aD p v:=(gz (λt=>t.1.get v) p (-1)).1
theorem dR{p:List aj}{t:aj}(h:t∈p)(v:Nat):t.1.get v<=aD p v:=(gz (λt=>t.1.get v) p (-1)).2.1 t h
theorem rG{p:List aj}(h:p≠[])(b:dX p)(v:Nat):∃t∈p,t.1.get v=aD p v:=by
 rcases(gz (λt=>t.1.get v) p (-1)).2.2 with h1|h1
 ·exfalso
  cases p with
  | nil=>exact h rfl
  | cons t p =>
   have:=dR (p:=t::p) (t:=t) sM v;have:=Ex.nat_get (b t sM) v;unfold aD at *;omega
 ·exact h1
theorem eB(p:List aj)(v:Nat):(aB p v).length=(aD p v+1).toNat:=by simp[aB]
theorem fO(f:Ex->Rat)(p:List aj)(v:Nat)(n:Int):Lf f (aR p v n)=Lf (λe=>if e.get v=n then f (e.put v 0)else 0) p:=by
 unfold aR
 induction p with
 | nil=>rfl
 | cons t p b =>
  simp only[List.filter_cons];split
  ·rename_i h;simp only[decide_eq_true_eq]at h;simp only[List.map_cons,oQ,b,if_pos h]
  ·rename_i h;simp only[decide_eq_true_eq]at h;simp only[oQ,b,if_neg h];grind
def ja (f:Nat->Rat):Nat->Rat
 | 0=>0
 | n+1=>ja f n+f n
theorem mG{f g:Nat->Rat}:∀{n:Nat},(∀i,i<n->f i=g i)->ja f n=ja g n
 | 0,_=>rfl
 | n+1,h=>by rw[ja,ja,mG (n:=n) (λi b=>h i (by omega)),h n (by omega)]
theorem Cf(f g:Nat->Rat):∀n,ja (λi=>f i+g i) n=ja f n+ja g n
 | 0=>by simp only[ja];grind
 | n+1=>by simp only[ja,Cf f g n];grind
theorem Ch{f:Nat->Rat}{k:Nat}:∀{n:Nat},k<n->(∀i,i<n->i≠k->f i=0)->ja f n=f k
 | 0,h,_=>by omega
 | n+1,h,h'=>by
  rw[ja];by_cases e:k=n
  ·subst e;have:ja f k=ja (λ_=>0) k:=mG λi j=>h' i oM oM
   have z:∀m,ja (λ_=>(0:Rat)) m=0:=by intro m;induction m with
    | zero=>rfl
    | succ m l=>simp only[ja,l];grind
   rw[this,z];grind
  ·rw[Ch (n:=n) oM (λi j b=>h' i oM b),h' n oM (λd=>e d.symm)];grind
theorem Ci(x:Pt)(v:Nat)(c:Rat)(N:Nat):∀{p:List aj},dX p->(∀t∈p,t.1.get v<N)->ev (x.put v c) p=ja (λn=>ev x (aR p v n)*c^n) N
 | [],_,_=>by
  have:∀m,ja (λn=>ev x (aR [] v n)*c^n) m=0:=by
   intro m;induction m with
   | zero=>rfl
   | succ m d=>simp only[ja,d];show(0:Rat)+(0:Rat)*_=0;grind
  rw[this];rfl
 | t::p,h,hN=>by
  have j:=Ex.nat_get h.head v;have l:=hN t sM;rw[lu,Ci x v c N h.tail (λs b=>hN s (by simp[b])),GQ]
  have e:∀n:Nat,ev x (aR (t::p) v n)*c^n=(if t.1.get v=n then t.2*xP x (t.1.put v 0)else 0)*c^n+ev x (aR p v n)*c^n:=by intro n;unfold ev;rw[fO,fO,oQ];split<;>grind
  rw[mG (λi _=>e i),Cf,Ch (f:=λn:Nat=>(if t.1.get v=(n:Int)then t.2*xP x (t.1.put v 0)else 0)*c^n) (k:=(t.1.get v).toNat) oM (λi _ o=>by rw[if_neg oM];grind),if_pos oM];grind
theorem Nq{p:List aj}{v:Nat}:∀t∈p,t.1.get v<((aD p v+1).toNat:Int):=λt b=>by have:=dR b v;have:=sG p v;omega
def Y3 (b:List aj) (l:List (List aj)):List aj:=l.foldr (λc out=>oH (aZ out b) c) []
theorem fH{p c:List aj}{v:Nat}(h:c∈aB p v):∃n:Nat,c=aR p v n:=by obtain⟨n,_,e⟩:=List.mem_map.1 h;exact⟨n,e.symm⟩
theorem Aq{p:List aj}{v n:Nat}(h:n<(aD p v+1).toNat):(aB p v).getD n []=aR p v n:=by simp[aB,jD,h]
theorem QO(x:Pt){p:List aj}(h:dX p)(v i:Nat):ev x (gU p v i)=ev x p*x.get v^i:=by
 unfold ev gU
 rw[zg _ _ (λe=>x.get v^i*xP x e) p (λt b=>by
  have:=Ex.nat_get (h t b) v;rw[I5 x t.1 v (t.1.get v+i),Int.toNat_add this (Int.natCast_nonneg i),qf];have e:=I5 x t.1 v (t.1.get v);rw[Ex.put_get]at e;simp only[Int.toNat_natCast]
  rw[e];grind),xO];grind
theorem dX.shift{p:List aj}(h:dX p)(v:Nat){i:Int}(e:0<=i):dX (gU p v i):=λt d=>by obtain⟨s,b,rfl⟩:=List.mem_map.1 d;exact Ex.put_nat (h s b) v (by have:=Ex.nat_get (h s b) v;omega)
theorem dX.fromL(v:Nat):∀{l:List (List aj)}{i:Int},0<=i->(∀c∈l,dX c)->dX (fromL v i l)
 | [],_,_,_=>dX.nil
 | c::l,i,hi,h=>((h c (by simp)).shift v hi).append (dX.fromL v (by omega) (λc hc=>h c (by simp[hc])))
theorem I6(x:Pt)(v:Nat):∀{l:List (List aj)}{i:Nat},(∀c∈l,dX c)->ev x (fromL v i l)=ja (λn=>ev x (l.getD n [])*x.get v^n) l.length*x.get v^i
 | [],i,_=>by simp only[fromL,jv,List.length_nil,ja];grind
 | c::l,i,h=>by
  have e:((i:Int)+1)=((i+1:Nat):Int):=oM;rw[fromL,pU,QO x (h c sM),e,I6 x v (λc hc=>h c (by simp[hc]))]
  have key:∀n:Nat,ja (λi=>ev x ((c::l).getD i [])*x.get v^i) (n+1)=ja (λi=>ev x (l.getD i [])*x.get v^i) n*x.get v+ev x c:=by
   intro n
   induction n with
   | zero=>simp only[ja,List.getD_cons_zero,Rat.pow_zero];grind
   | succ n b =>
    rw[ja,b];simp only[ja,List.getD_cons_succ,Rat.pow_succ];grind
  rw[List.length_cons,key,Rat.pow_succ];grind
theorem GR(x:Pt)(v:Nat){l:List (List aj)}(h:∀c∈l,dX c):ev x (uD l v)=ja (λn=>ev x (l.getD n [])*x.get v^n) l.length:=by have:=I6 x v (i:=0) h;rw[uD,nX (dX.fromL v (Int.le_refl _) h)];rw[show((0:Nat):Int)=0 from rfl]at this;rw[this,Rat.pow_zero];grind
theorem Pt.put_get(x:Pt)(v:Nat):x.put v (x.get v)=x:=by rcases v with _|_|_|v<;>rfl
theorem Ar{p:List aj}(h:bQ p)(v:Nat):uD (aB p v) v=p:=by
 refine O6 (dX.fromL v (Int.le_refl _) λc hc=>?_) h λx=>?_
 ·obtain⟨n,rfl⟩:=fH hc;exact(h.coeff v n).nat
 ·have:=GR x v (l:=aB p v) (λc hc=>by obtain⟨n,rfl⟩:=fH hc;exact(h.coeff v n).nat);rw[uD,nX (dX.fromL v (Int.le_refl _) λc hc=>by obtain⟨n,rfl⟩:=fH hc;exact(h.coeff v n).nat)]at this;rw[this];have e:=Ci x v (x.get v) _ h.nat Nq;rw[Pt.put_get]at e;rw[e,eB];exact mG λi b=>by rw[Aq b]
end Q
end
section
namespace Q
theorem Le{l:List aj}(h:l.Pairwise (λs t=>s.1≠t.1)){t:aj}(b:t∈l):cf l t.1=t.2:=by
 induction l with
 | nil=>cases b
 | cons s l i =>
  obtain⟨d,e⟩:=List.pairwise_cons.1 h;rw[bK];rcases List.mem_cons.1 b with rfl|b
  ·rw[if_pos rfl,oG (λu hu=>(d u hu).symm)];grind
  ·rw[if_neg (d t b),i e b];grind
theorem QP{l:List aj}{e:Ex}(h:cf l e≠0):∃t∈l,t.1=e:=by apply Classical.byContradiction;intro b;exact h (oG λt d he=>b ⟨t,d,he⟩)
theorem Ud{l r:List aj}(h:l.Perm r)(e:Ex):cf l e=cf r e:=by
 induction h with
 | nil=>rfl
 | cons x _ b=>rw[bK,bK,b]
 | swap x y l=>rw[bK,bK,bK,bK];grind
 | trans _ _ h1 h2=>rw[h1,h2]
theorem zm{l L d:List aj}(k:L.Pairwise (λs t=>s.1≠t.1))(n:∀t∈L,t.1.nat=true/\t.2=cf l t.1/\t.2≠0)(o:∀e:Ex,e.nat=true->cf l e≠0->(e,cf l e)∈L)
  (hp:L.Perm d) (q:d.Pairwise (λs t=>t.1.gt s.1=false)):d=canon l:=by
 have m:d.Pairwise (λs t=>s.1≠t.1):=(hp.pairwise_iff (λh=>Ne.symm h)).1 k
 have i:GK d:=by have:=List.pairwise_and_iff.2 ⟨q,m⟩;exact this.imp λ⟨a,b⟩=>Ex.gt_total a (λe=>b e.symm)
 have hv:bQ d:=⟨i,λt j=>by have:=n t (hp.mem_iff.2 j);exact⟨this.2.2,this.1⟩⟩;refine hv.inj (fB l) λe=>?_;rw[nW,<-Ud hp];by_cases hz:cf L e=0
 ·rw[hz];split
  ·rename_i p;apply Classical.byContradiction;intro hc;have:=Le k (o e p (λh=>hc h.symm));rw[hz]at this;exact hc this
  ·rfl
 ·obtain⟨t,j,rfl⟩:=QP hz;rw[Le k j,if_pos (n t j).1,(n t j).2.1]
def dG:List aj->List aj->List aj
 | [],q=>q
 | p,[]=>p
 | s::p,t::q=>if s.1.gt t.1=true then s::dG p (t::q)else if t.1.gt s.1=true then t::dG (s::p) q else if s.2+t.2=0 then dG p q else(s.1,s.2+t.2)::dG p q
 termination_by p q=>p.length+q.length
theorem mergeP_nil(p:List aj):dG p []=p:=by cases p<;>simp[dG]
theorem nY(q:List aj):dG [] q=q:=by simp[dG]
theorem jL{e:Ex}:∀{p q:List aj},(∀t∈p,e.gt t.1=true)->(∀t∈q,e.gt t.1=true)->∀t∈dG p q,e.gt t.1=true
 | [],q,_,h=>by rw[nY];exact h
 | s::p,[],h,_=>by rw[mergeP_nil];exact h
 | s::p,t::q,h,h'=>by
  intro u hu;unfold dG at hu;have d:=h s sM;have b:=h' t sM;have hp:∀t∈p,e.gt t.1=true:=λt b=>h t (by simp[b]);have hq:∀t∈q,e.gt t.1=true:=λt b=>h' t (by simp[b]);split at hu
  ·rcases List.mem_cons.1 hu with rfl|hu
   ·exact d
   ·exact jL hp h' u hu
  ·split at hu
   ·rcases List.mem_cons.1 hu with rfl|hu
    ·exact b
    ·exact jL h hq u hu
   ·split at hu
    ·exact jL hp hq u hu
    ·rcases List.mem_cons.1 hu with rfl|hu
     ·exact d
     ·exact jL hp hq u hu
 termination_by p q=>p.length+q.length
theorem vN:∀{p q:List aj},bQ p->bQ q->bQ (dG p q)/\∀e,cf (dG p q) e=cf p e+cf q e
 | [],q,_,h=>by rw[nY];exact⟨h,λe=>by rw[jK];grind⟩
 | s::p,[],h,_=>by rw[mergeP_nil];exact⟨h,λe=>by rw[jK];grind⟩
 | s::p,t::q,h,h'=>by
  have hp:=h.tail;have hq:=h'.tail;unfold dG;split
  ·rename_i hg;obtain⟨b,d⟩:=vN hp h';refine⟨⟨List.pairwise_cons.2 ⟨jL (h.1.head) (λu hu=>?_),b.1⟩,λu hu=>?_⟩,λe=>?_⟩
   ·rcases List.mem_cons.1 hu with rfl|hu
    ·exact hg
    ·exact Ex.gt_trans hg (h'.1.head u hu)
   ·rcases List.mem_cons.1 hu with rfl|hu
    ·exact h.2 _ sM
    ·exact b.2 u hu
   ·rw[bK,d,bK (l:=p)];grind
  ·split
   ·rename_i hg;obtain⟨b,d⟩:=vN h hq;refine⟨⟨List.pairwise_cons.2 ⟨jL (λu hu=>?_) (h'.1.head),b.1⟩,λu hu=>?_⟩,λe=>?_⟩
    ·rcases List.mem_cons.1 hu with rfl|hu
     ·exact hg
     ·exact Ex.gt_trans hg (h.1.head u hu)
    ·rcases List.mem_cons.1 hu with rfl|hu
     ·exact h'.2 _ sM
     ·exact b.2 u hu
    ·rw[bK,d,bK (l:=q)];grind
   ·rename_i i j
    have he:s.1=t.1:=by apply Classical.byContradiction;intro k;exact j (Ex.gt_total (by simpa using i) k)
    obtain⟨b,d⟩:=vN hp hq;split
    ·rename_i hz;refine⟨b,λe=>?_⟩;rw[d,bK,bK,he];grind
    ·rename_i hz;refine⟨⟨List.pairwise_cons.2 ⟨jL (h.1.head) (λu hu=>by rw[he];exact h'.1.head u hu),b.1⟩,λu hu=>?_⟩,λe=>?_⟩
     ·rcases List.mem_cons.1 hu with rfl|hu
      ·exact⟨hz,(h.2 s sM).2⟩
      ·exact b.2 u hu
     ·rw[bK,d,bK,bK,he];grind
 termination_by p q=>p.length+q.length
theorem rH{p q:List aj}(hp:bQ p)(hq:bQ q):dG p q=oH p q:=by
 obtain⟨h,i⟩:=vN hp hq;refine h.inj (fB _) λe=>?_;rw[i,oH,nW,pR];split
 ·rfl
 ·rename_i d;rw[oG (l:=p) (λt b he=>d (by rw[<-he];exact(hp.2 t b).2)),oG (l:=q) (λt b he=>d (by rw[<-he];exact(hq.2 t b).2))];grind
end Q
end
section
namespace Q
theorem uE{e f g h:Ex}(d:e=f\/e.gt f=true)(b:g=h\/g.gt h=true)(i:¬(e=f/\g=h)):(e.add g).gt (f.add h)=true:=by
 rcases d with rfl|d
 ·rcases b with rfl|b
  ·exact absurd ⟨rfl,rfl⟩ i
  ·rw[Ex.gt_add];exact b
 ·rcases b with rfl|b
  ·rw[Ex.add_comm e,Ex.add_comm f,Ex.gt_add];exact d
  ·refine Ex.gt_trans (f:=e.add h) (by rw[Ex.gt_add];exact b) ?_;rw[Ex.add_comm e,Ex.add_comm f,Ex.gt_add];exact d
theorem GK.head_or{s:aj}{l:List aj}(h:GK (s::l)):∀u∈s::l,s.1=u.1\/s.1.gt u.1=true:=λu hu=>by
 rcases List.mem_cons.1 hu with rfl|hu
 ·exact .inl rfl
 ·exact .inr (h.head u hu)
theorem rf{s t:aj}{l r:List aj}(i:GK (s::l))(e:GK (t::r)):cf (prods (s::l) (t::r)) (s.1.add t.1)=s.2*t.2:=by
 rw[kJ,pR,List.map_cons,bK]
 have e1:cf (r.map (mulT s)) (s.1.add t.1)=0:=oG λu hu=>by obtain⟨j,d,rfl⟩:=List.mem_map.1 hu;exact(Ex.gt_ne (uE (.inl rfl) (.inr (e.head j d)) (λh=>Ex.gt_ne (e.head j d) h.2))).symm
 have k:cf (prods l (t::r)) (s.1.add t.1)=0:=oG λu hu=>by obtain⟨a,ha,b,hb,rfl⟩:=nC hu;exact(Ex.gt_ne (uE (.inr (i.head a ha)) (e.head_or b hb) (λh=>Ex.gt_ne (i.head a ha) h.1))).symm
 rw[e1,k];simp only[mulT,if_true];grind
theorem GU{p q:List aj}(hp:bQ p)(hq:bQ q)(b:p≠[])(d:q≠[]):aZ p q≠[]:=by
 cases p with
 | nil=>exact absurd rfl b
 | cons s l=>cases q with
  | nil=>exact absurd rfl d
  | cons t r =>
   intro h;have hc:=nW (prods (s::l) (t::r)) (s.1.add t.1);rw[show canon (prods (s::l) (t::r))=[]from h,jK,if_pos (Ex.nat_add hp.nat.head hq.nat.head),rf hp.1 hq.1]at hc;exact jm (hp.2 s sM).1 (hq.2 t sM).1 hc.symm
theorem EL(q:List aj):aZ [] q=[]:=rfl
theorem uF(p:List aj):aZ p []=[]:=by
 have:prods p []=[]:=by induction p with
  | nil=>rfl
  | cons s l b=>rw[kJ,b];rfl
 rw[aZ,this];rfl
theorem GV{p q:List aj}(hp:bQ p)(hq:bQ q):aZ p q=[]↔p=[]\/q=[]:=by
 constructor
 ·intro h;rcases Classical.em (p=[])with h1|h1
  ·exact .inl h1
  ·rcases Classical.em (q=[])with h2|h2
   ·exact .inr h2
   ·exact absurd h (GU hp hq h1 h2)
 ·rintro (rfl|rfl)
  ·exact EL _
  ·exact uF _
theorem nZ(f:Ex->Rat)(r:List aj):∀l:List aj,Lf f (prods l r)=Lf (λe=>Lf (λb=>f (e.add b)) r) l
 | []=>rfl
 | s::l=>by
  rw[kJ,nA,nZ f r l,oQ]
  congr 1
  rw[<-xO];exact zg f (mulT s) (λb=>s.2*f (s.1.add b)) r λt _=>by simp only[mulT];grind
theorem Ex.get_add(e f:Ex)(v:Nat):(e.add f).get v=e.get v+f.get v:=by rcases v with _|_|_|v<;>rfl
theorem Ex.put_add(e f:Ex)(v:Nat):(e.add f).put v 0=(e.put v 0).add (f.put v 0):=by rcases v with _|_|_|v<;>simp[Ex.add,Ex.put]
theorem Au{p q:List aj}(v:Nat):Ni (aR (prods p q) v (aD p v+aD q v)) (prods (aR p v (aD p v)) (aR q v (aD q v))):=λf=>by
 rw[fO,nZ,nZ,fO];refine iZ λs d=>?_;have e:=dR d v;split
 ·rename_i he;rw[fO];refine iZ λt b=>?_;rw[Ex.get_add,Ex.put_add];by_cases h:t.1.get v=aD q v
  ·rw[if_pos h,if_pos oM]
  ·rw[if_neg h,if_neg oM]
 ·rename_i he;rw[iZ (g:=λ_=>0) (λt b=>?_),Nj];have i:=dR b v;rw[Ex.get_add,if_neg oM]
theorem mf{P:Ex->Prop}{l:List aj}(h:∀t∈l,P t.1):∀t∈canon l,P t.1:=by
 have:∀(l r:List aj),(∀t∈l,P t.1)->(∀t∈r,P t.1)->∀t∈l.foldl ins r,P t.1:=by
  intro l
  induction l with
  | nil=>exact λr _ b=>b
  | cons m l i =>
   intro r e b;exact i _ (λt d=>e t (by simp[d])) (QL b (e m sM))
 exact this l [] h (λt d=>by cases d)
theorem bQ.coeff_ne{p:List aj}(hp:bQ p)(h:p≠[])(v:Nat):aR p v (aD p v)≠[]:=by obtain⟨t,b,e⟩:=rG h hp.nat v;intro hc;have:(t.1.put v 0,t.2)∈aR p v (aD p v):=List.mem_map.2 ⟨t,List.mem_filter.2 ⟨b,by simpa using e⟩,rfl⟩;rw[hc]at this;cases this
theorem QQ{p q:List aj}(hp:bQ p)(hq:bQ q)(m:p≠[])(n:q≠[])(v:Nat):aD (aZ p q) v=aD p v+aD q v:=by
 have i:=GU hp hq m n
 have lv:∀t∈aZ p q,t.1.get v<=aD p v+aD q v:=mf (P:=λe=>e.get v<=aD p v+aD q v) λt j=>by obtain⟨a,ha,b,hb,rfl⟩:=nC j;have:=dR ha v;have:=dR hb v;simp only[mulT,Ex.get_add];omega
 obtain⟨t,j,e⟩:=rG i (bQ.mul p q).nat v;have r:=lv t j
 have hc:aR (aZ p q) v (aD p v+aD q v)≠[]:=by
  intro h
  have o:Ni (aR (aZ p q) v (aD p v+aD q v)) (prods (aR p v (aD p v)) (aR q v (aD q v))):=λf=>by rw[fO,aZ,(iB (dX.prods hp.nat hq.nat)) _,<-fO];exact Au v f
  rw[h]at o;have s:=GU (hp.coeff v (aD p v)) (hq.coeff v (aD q v)) (hp.coeff_ne m v) (hq.coeff_ne n v);exact s (show canon _=[]from by rw[<-o.canon];rfl)
 obtain⟨c,d⟩:=List.exists_mem_of_ne_nil _ hc;obtain⟨u,hu,-⟩:=List.mem_map.1 d;obtain⟨k,l⟩:=List.mem_filter.1 hu;have x:=dR k v;have y:u.1.get v=aD p v+aD q v:=by simpa using l
 omega
end Q
end
section
namespace Q
theorem Bt{e:Ex}{c:Rat}(he:e.nat=true)(hc:c≠0):bQ [(e,c)] :=
 ⟨List.pairwise_singleton _ _,λt b=>by rw[List.mem_singleton.1 b];exact⟨hc,he⟩⟩
theorem sH(f:Ex->Rat)(v:Nat):∀{p:List aj},dX p->Lf f (aS p v)=Lf (λe=>(e.get v:Rat)*f (e.put v (e.get v-1))) p
 | [],_=>rfl
 | t::p,h=>by
  have b:=sH f v h.tail;have h0:=Ex.nat_get h.head v;rw[oQ,<-b];unfold aS;by_cases hz:0<t.1.get v
  ·rw[List.filter_cons_of_pos (by simpa using hz),List.map_cons,oQ];simp only;grind
  ·rw[List.filter_cons_of_neg (by simpa using hz)];have:t.1.get v=0:=oM;rw[this,show((0:Int):Rat)=0 from rfl];grind
theorem Ex.put_sub_left(e f:Ex)(v:Nat):(e.put v (e.get v-1)).add f=(e.add f).put v ((e.add f).get v-1):=by rcases v with _|_|_|v<;>refine Ex.ext' ?_ ?_ ?_ ?_<;>simp only[Ex.add,Ex.put,Ex.get]<;>omega
theorem GX{p q:List aj}(hp:bQ p)(hq:bQ q)(v:Nat):aS (aZ p q) v=oH (aZ (aS p v) q) (aZ p (aS q v)) :=
 ((bQ.mul p q).pder v).eqv_inj (bQ.add _ _) λf=>by have b:=(hp.pder v).nat;have d:=(hq.pder v).nat;rw[sH f v (bQ.mul p q).nat,aZ,(iB (hp.nat.prods hq.nat)) _,oH,(iB ((bQ.mul _ _).nat.append (bQ.mul _ _).nat)) _,nA,aZ,(iB (b.prods hq.nat)) _,aZ,(iB (hp.nat.prods d)) _];rw[nZ,nZ,nZ,sH _ v hp.nat,<-QH];refine iZ λs _=>?_;rw[sH _ v hq.nat,<-xO,<-QH];refine iZ λt _=>?_;have e1:=Ex.put_sub_left s.1 t.1 v;have e:=Ex.put_sub_left t.1 s.1 v;rw[Ex.add_comm t.1 s.1,Ex.add_comm _ s.1]at e;rw[e1,e,Ex.get_add,Rat.intCast_add];grind
theorem Ex.get_put_ne(e:Ex){x y:Nat}(b:x<4)(d:y<4)(h:x≠y)(a:Int):(e.put x a).get y=e.get y:=by
 obtain rfl|rfl|rfl|rfl:x=0\/x=1\/x=2\/x=3:=oM
 all_goals (obtain rfl|rfl|rfl|rfl:y=0\/y=1\/y=2\/y=3:=oM)<;>first|rfl|exact absurd rfl h
theorem Lg(p:List aj)(v:Nat)(n:Int):aD (aR p v n) v<=0:=by
 rcases(gz (λt=>t.1.get v) (aR p v n) (-1)).2.2 with h|⟨t,b,h⟩
 ·show(aR p v n).foldl _ _<=0;rw[h];omega
 ·show(aR p v n).foldl _ _<=0;rw[<-h];obtain⟨s,-,rfl⟩:=List.mem_map.1 b;simp only[Ex.get_put];omega
theorem O8(p:List aj)(v:Nat)(c:Rat):aD (xR p v c) v<=0:=by
 have hz:∀t∈xR p v c,t.1.get v=0:=mf (P:=λe=>e.get v=0) λt b=>by obtain⟨s,-,rfl⟩:=List.mem_map.1 b;exact Ex.get_put _ _ _
 rcases(gz (λt=>t.1.get v) (xR p v c) (-1)).2.2 with h|⟨t,b,h⟩
 ·show(xR p v c).foldl _ _<=0;rw[h];omega
 ·show(xR p v c).foldl _ _<=0;rw[<-h,hz t b];omega
theorem bQ.eval(p:List aj)(v:Nat)(c:Rat):bQ (xR p v c):=fB _
end Q
end
section
namespace Q
structure MP where
 l:List aj
 v:bQ l
theorem MP.eq_of{p q:MP}(h:p.l=q.l):p=q:=by cases p;cases q;cases h;rfl
def MP.ev (x:Pt) (p:MP):Rat:=Q.ev x p.l
theorem MP.ext'{p q:MP}(h:∀x,p.ev x=q.ev x):p=q:=MP.eq_of (zi p.v q.v h)
def MP.c (r:Rat):MP:=⟨bW r,bQ.const r⟩
instance:Add MP:=⟨λp q=>⟨oH p.l q.l,bQ.add _ _⟩⟩
instance:Mul MP:=⟨λp q=>⟨aZ p.l q.l,bQ.mul _ _⟩⟩
instance:Neg MP:=⟨λp=>⟨bS p.l (-1),p.v.scale _⟩⟩
instance:Sub MP:=⟨λp q=>⟨gp p.l q.l,bQ.sub _ _⟩⟩
instance:NatCast MP:=⟨λn=>MP.c n⟩
instance:IntCast MP:=⟨λn=>MP.c n⟩
instance (n:Nat):OfNat MP n:=⟨MP.c (n:Rat)⟩
instance:SMul Nat MP:=⟨λn p=>(n:MP)*p⟩
instance:SMul Int MP:=⟨λn p=>(n:MP)*p⟩
instance:HPow MP Nat MP:=⟨λp n=>⟨rF p.l n,bQ.pow _ _⟩⟩
theorem MP.ev_add(x:Pt)(p q:MP):(p+q).ev x=p.ev x+q.ev x:=Q.ev_add x p.v.nat q.v.nat
theorem MP.ev_mul(x:Pt)(p q:MP):(p*q).ev x=p.ev x*q.ev x:=Q.ev_mul x p.v.nat q.v.nat
theorem MP.ev_neg(x:Pt)(p:MP):(-p).ev x=- p.ev x:=by have:=Q.ev_scale x p.l (-1);show Q.ev x (bS p.l (-1))=- Q.ev x p.l;rw[this];grind
theorem MP.ev_sub(x:Pt)(p q:MP):(p-q).ev x=p.ev x-q.ev x:=Q.ev_sub x p.v.nat q.v
theorem MP.ev_c(x:Pt)(r:Rat):(MP.c r).ev x=r:=qg x r
theorem MP.ev_nat(x:Pt)(n:Nat):((n:Nat):MP).ev x=n:=qg x _
theorem MP.ev_int(x:Pt)(n:Int):((n:Int):MP).ev x=n:=qg x _
theorem MP.ev_ofNat(x:Pt)(n:Nat):(OfNat.ofNat n:MP).ev x=(n:Rat):=qg x _
theorem MP.ev_zero(x:Pt):(0:MP).ev x=0:=(qg x ((0:Nat):Rat)).trans rfl
theorem MP.ev_one(x:Pt):(1:MP).ev x=1:=(qg x ((1:Nat):Rat)).trans rfl
theorem MP.ev_pow(x:Pt)(p:MP)(n:Nat):(p^n).ev x=p.ev x^n:=Q.ev_pow x p.v.nat n
abbrev MP.cls {C:Type->Type} {α:Type} (_:C α):Type->Type:=C
instance:MP.cls Dyadic.instCommRing MP where
 add_zero a:=MP.ext' λx=>by rw[MP.ev_add,MP.ev_zero];grind
 add_comm a b:=MP.ext' λx=>by rw[MP.ev_add,MP.ev_add];grind
 add_assoc a b c:=MP.ext' λx=>by simp only[MP.ev_add];grind
 mul_assoc a b c:=MP.ext' λx=>by simp only[MP.ev_mul];grind
 mul_one a:=MP.ext' λx=>by rw[MP.ev_mul,MP.ev_one];grind
 one_mul a:=MP.ext' λx=>by rw[MP.ev_mul,MP.ev_one];grind
 left_distrib a b c:=MP.ext' λx=>by simp only[MP.ev_mul,MP.ev_add];grind
 right_distrib a b c:=MP.ext' λx=>by simp only[MP.ev_mul,MP.ev_add];grind
 zero_mul a:=MP.ext' λx=>by rw[MP.ev_mul,MP.ev_zero];grind
 mul_zero a:=MP.ext' λx=>by rw[MP.ev_mul,MP.ev_zero];grind
 pow_zero a:=MP.ext' λx=>by rw[MP.ev_pow,MP.ev_one,Rat.pow_zero]
 pow_succ a n:=MP.ext' λx=>by rw[MP.ev_pow,MP.ev_mul,MP.ev_pow,Rat.pow_succ]
 ofNat_succ a:=MP.ext' λx=>by have h:=MP.ev_ofNat x (a+1);have h2:=MP.ev_ofNat x a;rw[MP.ev_add,MP.ev_one,h,h2,Rat.natCast_add];rfl
 ofNat_eq_natCast n:=rfl
 nsmul_eq_natCast_mul n a:=rfl
 neg_add_cancel a:=MP.ext' λx=>by rw[MP.ev_add,MP.ev_neg,MP.ev_zero];grind
 sub_eq_add_neg a b:=MP.ext' λx=>by rw[MP.ev_add,MP.ev_neg,MP.ev_sub];grind
 neg_zsmul i a:=MP.ext' λx=>by show MP.ev x (((-i:Int):MP)*a)=MP.ev x (-((i:MP)*a));rw[MP.ev_mul,MP.ev_neg,MP.ev_mul,MP.ev_int,MP.ev_int,Rat.intCast_neg];grind
 zsmul_natCast_eq_nsmul n a:=MP.ext' λx=>by show MP.ev x (((n:Int):MP)*a)=MP.ev x ((n:MP)*a);rw[MP.ev_mul,MP.ev_mul,MP.ev_int,MP.ev_nat,iN]
 intCast_ofNat n:=MP.ext' λx=>by have h:=MP.ev_ofNat x n;rw[h];exact(MP.ev_int x _).trans (iN n)
 intCast_neg i:=MP.ext' λx=>by rw[MP.ev_int,MP.ev_neg,MP.ev_int,Rat.intCast_neg]
 mul_comm a b:=MP.ext' λx=>by rw[MP.ev_mul,MP.ev_mul];grind
theorem MP.zero_iff{p:MP}:p=0↔p.l=[]:=⟨λh=>by rw[h];rfl,λh=>MP.eq_of (by rw[h];rfl)⟩
theorem MP.mul_eq_zero{p q:MP}:p*q=0↔p=0\/q=0:=by rw[MP.zero_iff,MP.zero_iff,MP.zero_iff];exact GV p.v q.v
theorem MP.mul_ne{p q:MP}(hp:p≠0)(hq:q≠0):p*q≠0:=λh=>(MP.mul_eq_zero.1 h).elim hp hq
theorem MP.cancel{p q r:MP}(hp:p≠0)(h:p*q=p*r):q=r:=by
 have:p*(q - r)=0:=gR;rcases MP.mul_eq_zero.1 this with h|h
 ·exact absurd h hp
 ·grind
theorem MP.one_ne:(1:MP)≠0:=λh=>by have:=MP.zero_iff.1 h;cases this
def MP.deg (v:Nat) (p:MP):Int:=aD p.l v
def MP.co (v n:Nat) (p:MP):MP:=⟨aR p.l v n,p.v.coeff v n⟩
def MP.fr (v:Nat) (p:MP):Prop:=p.deg v<=0
theorem MP.deg_mul{p q:MP}(hp:p≠0)(hq:q≠0)(v:Nat):(p*q).deg v=p.deg v+q.deg v :=
 QQ p.v q.v (λh=>hp (MP.zero_iff.2 h)) (λh=>hq (MP.zero_iff.2 h)) v
theorem MP.deg_ge(v:Nat)(p:MP):-1<=p.deg v:=sG _ _
theorem MP.deg_pos{p:MP}(hp:p≠0)(v:Nat):0<=p.deg v:=by obtain⟨t,b,e⟩:=rG (λh=>hp (MP.zero_iff.2 h)) p.v.nat v;show 0<=aD p.l v;rw[<-e];exact Ex.nat_get (p.v.nat t b) v
theorem MP.deg_zero(v:Nat):(0:MP).deg v=-1:=rfl
theorem MP.fr_get{p:MP}{v:Nat}(h:p.fr v){t:aj}(b:t∈p.l):t.1.get v=0:=by have d:=dR b v;have e:=Ex.nat_get (p.v.nat t b) v;have i:aD p.l v<=0:=h;omega
theorem VB{p:MP}{v:Nat}(h:∀t∈p.l,t.1.get v=0):p.fr v:=by
 rcases(gz (λt=>t.1.get v) p.l (-1)).2.2 with e|⟨t,b,e⟩
 ·show aD p.l v<=0;unfold aD;rw[e];omega
 ·show aD p.l v<=0;unfold aD;rw[<-e,h t b];omega
theorem MP.co_fr(v n:Nat)(p:MP):(p.co v n).fr v:=Lg _ _ _
theorem O9{p q:MP}(h:Ni p.l q.l):p=q:=MP.eq_of (p.v.eqv_inj q.v h)
theorem MP.lf_add(f:Ex->Rat)(p q:MP):Lf f (p+q).l=Lf f p.l+Lf f q.l:=by have:=iB (p.v.nat.append q.v.nat) f;show Lf f (canon (p.l++q.l))=_;rw[this,nA]
theorem MP.lf_mul(f:Ex->Rat)(p q:MP):Lf f (p*q).l=Lf (λe=>Lf (λb=>f (e.add b)) q.l) p.l:=by have:=iB (p.v.nat.prods q.v.nat) f;show Lf f (canon (prods p.l q.l))=_;rw[this,nZ]
theorem MP.lf_neg(f:Ex->Rat)(p:MP):Lf f (-p).l=- Lf f p.l:=by have h:p+-p=0:=gR;have:=MP.lf_add f p (-p);rw[h]at this;have e:Lf f (0:MP).l=0:=rfl;rw[e]at this;grind
theorem MP.co_add(v n:Nat)(p q:MP):(p+q).co v n=p.co v n+q.co v n:=O9 λf=>by rw[MP.lf_add];show Lf f (aR _ v n)=Lf f (aR _ v n)+Lf f (aR _ v n);rw[fO,fO,fO,MP.lf_add]
theorem MP.co_neg(v n:Nat)(p:MP):(-p).co v n=- p.co v n:=O9 λf=>by rw[MP.lf_neg];show Lf f (aR _ v n)=- Lf f (aR _ v n);rw[fO,fO,MP.lf_neg]
theorem MP.co_sub(v n:Nat)(p q:MP):(p-q).co v n=p.co v n-q.co v n:=by have h:p-q=p+-q:=gR;rw[h,MP.co_add,MP.co_neg];grind
theorem MP.co_mul_fr{d:MP}{v:Nat}(hd:d.fr v)(n:Nat)(p:MP):(d*p).co v n=d*p.co v n:=O9 λf=>by rw[MP.lf_mul];show Lf f (aR _ v n)=_;rw[fO,MP.lf_mul];refine iZ λt b=>?_;show _=Lf _ (aR _ v n);rw[fO];refine iZ λs _=>?_;have e:=MP.fr_get hd b;rw[Ex.get_add,e,Ex.put_add,show t.1.put v 0=t.1 by rw[<-e,Ex.put_get],Int.zero_add]
def MP.xk (v k:Nat):MP:=⟨[(e0.put v k,1)],Bt (Ex.put_nat rfl v (by omega)) (by decide)⟩
theorem Cj(v:Nat):Ex.get e0 v=0:=by rcases v with _|_|_|v<;>rfl
theorem MP.xk_ne(v k:Nat):MP.xk v k≠0:=λh=>by have:=MP.zero_iff.1 h;cases this
theorem Ex.add_put0(e:Ex)(v:Nat)(k:Int):((e0.put v k).add e)=e.put v (e.get v+k):=by rcases v with _|_|_|v<;>simp[Ex.add,Ex.put,Ex.get,Int.add_comm]
theorem MP.co_xk(v k n:Nat)(p:MP):(MP.xk v k*p).co v n=if k<=n then p.co v (n-k)else 0:=O9 λf=>by
 show Lf f (aR _ v n)=_;rw[fO,MP.lf_mul];show Lf _ [((e0.put v k),(1:Rat))]=_;rw[oQ,Lc];split
 ·rename_i h;show _=Lf f (aR _ v _);rw[fO]
  have:Lf (λb=>if((e0.put v ↑k).add b).get v=(n:Int)then f (((e0.put v ↑k).add b).put v 0)else 0) p.l=Lf (λe=>if e.get v=((n-k:Nat):Int)then f (e.put v 0)else 0) p.l:=iZ λt _=>by
   rw[Ex.add_put0,Ex.get_put,Ex.put_put];by_cases hc:t.1.get v=((n-k:Nat):Int)
   ·rw[if_pos hc,if_pos oM]
   ·rw[if_neg hc,if_neg oM]
  rw[this];grind
 ·rename_i h
  have:Lf (λb=>if((e0.put v ↑k).add b).get v=(n:Int)then f (((e0.put v ↑k).add b).put v 0)else 0) p.l=Lf (λ_=>0) p.l:=iZ λt d=>by rw[Ex.add_put0,Ex.get_put];have:=Ex.nat_get (p.v.nat t d) v;rw[if_neg oM]
  rw[this,Nj];show _=(0:Rat);grind
theorem MP.deg_xk(v k:Nat):(MP.xk v k).deg v=k:=by show max (-1) ((e0.put v k).get v)=k;rw[Ex.get_put];omega
theorem MP.co_above{p:MP}{v n:Nat}(h:p.deg v<n):p.co v n=0:=by rw[MP.zero_iff];show(p.l.filter λt=>t.1.get v=(n:Int)).map _=[];rw[List.map_eq_nil_iff,List.filter_eq_nil_iff];intro t b;have:=dR b v;have d:aD p.l v<n:=h;simp;omega
theorem MP.deg_le_of{p:MP}{v:Nat}{k:Int}(i:-1<=k)(h:∀n:Nat,k<n->p.co v n=0):p.deg v<=k:=by
 rcases Int.lt_or_le k (p.deg v)with hlt|lv
 ·exfalso
  have b:p.l≠[]:=λe=>by
   have:p.deg v=-1:=by show aD p.l v=-1;rw[e];rfl
   omega
  obtain⟨t,d,e⟩:=rG b p.v.nat v;have h0:=Ex.nat_get (p.v.nat t d) v;have hz:=h (t.1.get v).toNat (by rw[e];show k<((aD p.l v).toNat:Int);rw[Int.toNat_of_nonneg (by rw[<-e];exact h0)];exact hlt);rw[MP.zero_iff]at hz;have hz:(p.l.filter λu=>u.1.get v=((t.1.get v).toNat:Int)).map _=[]:=hz;rw[List.map_eq_nil_iff,List.filter_eq_nil_iff]at hz;exact hz t d (by simp;omega)
 ·exact lv
def MP.lc (v:Nat) (p:MP):MP:=p.co v (p.deg v).toNat
theorem MP.lc_fr(v:Nat)(p:MP):(p.lc v).fr v:=MP.co_fr _ _ _
theorem MP.lc_ne{p:MP}(hp:p≠0)(v:Nat):p.lc v≠0:=λh=>by rw[MP.zero_iff]at h;have b:=p.v.coeff_ne (λe=>hp (MP.zero_iff.2 e)) v;have d:0<=aD p.l v:=MP.deg_pos hp v;apply b;have:aR p.l v ((aD p.l v).toNat:Int)=[]:=h;rwa[Int.toNat_of_nonneg d]at this
def cO (f:Nat->MP):Nat->MP
 | 0=>0
 | n+1=>cO f n+f n
theorem GY(x:Pt)(f:Nat->MP):∀n,(cO f n).ev x=ja (λi=>(f i).ev x) n
 | 0=>MP.ev_zero x
 | n+1=>by rw[cO,MP.ev_add,GY x f n];rfl
theorem MP.ev_xk(x:Pt)(v k:Nat):(MP.xk v k).ev x=x.get v^k:=by
 show(1:Rat)*xP x (e0.put v k)+0=_
 have:xP x (e0.put v k)=x.get v^k:=by rcases v with _|_|_|v<;>simp[xP,Ex.put,Pt.get,Rat.pow_zero,Rat.one_mul,Rat.mul_one]
 rw[this];grind
theorem MP.split(v:Nat)(p:MP){N:Nat}(h:p.deg v<N):p=cO (λn=>p.co v n*MP.xk v n) N:=MP.ext' λx=>by rw[GY];have:=Ci x v (x.get v) N p.v.nat (λt b=>by have:=dR b v;have d:aD p.l v<N:=h;omega);rw[Pt.put_get]at this;show Q.ev x p.l=_;rw[this];refine mG λi _=>?_;rw[MP.ev_mul,MP.ev_xk];rfl
instance:Dvd MP:=⟨λa b=>∃c,b=a*c⟩
theorem MP.dvd_refl(a:MP):a∣a:=⟨1,gR⟩
theorem MP.dvd_trans{a b c:MP}(h:a∣b)(d:b∣c):a∣c:=by obtain⟨x,rfl⟩:=h;obtain⟨y,rfl⟩:=d;exact⟨x*y,gR⟩
theorem MP.dvd_mul_right(a b:MP):a∣a*b:=⟨b,rfl⟩
theorem MP.dvd_mul_left(a b:MP):a∣b*a:=⟨b,gR⟩
theorem MP.dvd_zero(a:MP):a∣0:=⟨0,gR⟩
theorem MP.zero_dvd{a:MP}(h:(0:MP)∣a):a=0:=by obtain⟨x,rfl⟩:=h;grind
theorem MP.dvd_add{a b c:MP}(h:a∣b)(d:a∣c):a∣b+c:=by obtain⟨x,rfl⟩:=h;obtain⟨y,rfl⟩:=d;exact⟨x+y,gR⟩
theorem MP.dvd_sub{a b c:MP}(h:a∣b)(d:a∣c):a∣b-c:=by obtain⟨x,rfl⟩:=h;obtain⟨y,rfl⟩:=d;exact⟨x - y,gR⟩
theorem MP.dvd_mul_of{a b:MP}(h:a∣b)(c:MP):a∣b*c:=by obtain⟨x,rfl⟩:=h;exact⟨x*c,gR⟩
theorem MP.dvd_mul_of'{a b:MP}(h:a∣b)(c:MP):a∣c*b:=by obtain⟨x,rfl⟩:=h;exact⟨c*x,gR⟩
theorem MP.mul_dvd{a b c d:MP}(h:a∣b)(e:c∣d):a*c∣b*d:=by obtain⟨x,rfl⟩:=h;obtain⟨y,rfl⟩:=e;exact⟨x*y,gR⟩
theorem MP.dvd_cancel{a b c:MP}(ha:a≠0)(h:a*b∣a*c):b∣c:=by obtain⟨x,e⟩:=h;exact⟨x,MP.cancel ha (by rw[e];grind)⟩
theorem MP.dvd_ne{a b:MP}(hb:b≠0)(h:a∣b):a≠0:=λe=>hb (MP.zero_dvd (e▸h))
theorem MP.dvd_deg{a b:MP}(hb:b≠0)(h:a∣b)(v:Nat):a.deg v<=b.deg v:=by obtain⟨x,rfl⟩:=h;have ha:a≠0:=λe=>hb (by rw[e];grind);have d:x≠0:=λe=>hb (by rw[e];grind);have:=MP.deg_pos d v;rw[MP.deg_mul ha d];omega
theorem MP.dvd_msum{a:MP}{f:Nat->MP}:∀{n:Nat},(∀i,i<n->a∣f i)->a∣cO f n
 | 0,_=>MP.dvd_zero a
 | n+1,h=>MP.dvd_add (MP.dvd_msum λi b=>h i (by omega)) (h n (by omega))
theorem MP.dvd_iff_co{d:MP}{v:Nat}(hd:d.fr v)(p:MP):d∣p↔∀n,d∣p.co v n:=by
 constructor
 ·rintro⟨q,rfl⟩ n;rw[MP.co_mul_fr hd];exact MP.dvd_mul_right _ _
 ·intro h;rw[MP.split v p (N:=(p.deg v).toNat+1) (by have:=MP.deg_ge v p;omega)];exact MP.dvd_msum λi _=>MP.dvd_mul_of (h i) _
def MP.unit (a:MP):Prop:=a∣1
theorem MP.unit_dvd{a:MP}(h:a.unit)(b:MP):a∣b:=by obtain⟨x,e⟩:=h;exact⟨x*b,gR⟩
theorem MP.unit_of_dvd{a b:MP}(h:a∣b)(hb:b.unit):a.unit:=MP.dvd_trans h hb
theorem MP.unit_one:(1:MP).unit:=MP.dvd_refl 1
theorem MP.unit_mul{a b:MP}(ha:a.unit)(hb:b.unit):(a*b).unit:=by obtain⟨x,e⟩:=ha;obtain⟨y,f⟩:=hb;exact⟨x*y,gR⟩
theorem MP.unit_cancel{a u:MP}(ha:a≠0)(h:a*u∣a):u.unit:=by refine MP.dvd_cancel ha (c:=1) ?_;have e:a*1=a:=gR;rw[e];exact h
end Q
end
section
namespace Q
namespace MP
structure jw (g a b:MP):Prop where
 l:g∣a
 r:g∣b
 u:∀d,d∣a->d∣b->d∣g
def lo (n:Nat) (p:MP):Prop:=∀w,n<=w->w<4->p.fr w
theorem K9(p:MP):p.lo 4:=λw h b=>oM
theorem lo.mono{m n:Nat}(h:m<=n){p:MP}(hp:p.lo m):p.lo n:=λw d b=>hp w oM b
theorem qR(v:Nat):(0:MP).fr v:=by show(-1:Int)<=0;omega
theorem Nr(n:Nat):(0:MP).lo n:=λw _ _=>qR w
theorem wR{a b:MP}{v:Nat}(ha:a.fr v)(hb:b.fr v):(a*b).fr v:=by
 by_cases d:a=0
 ·have:a*b=0:=gR;rw[this];exact qR v
 ·by_cases e:b=0
  ·have:a*b=0:=gR;rw[this];exact qR v
  ·show(a*b).deg v<=0;rw[deg_mul d e];have h:a.deg v<=0:=ha;have i:b.deg v<=0:=hb;omega
theorem kK{n:Nat}{a b:MP}(ha:a.lo n)(hb:b.lo n):(a*b).lo n:=λw d e=>wR (ha w d e) (hb w d e)
theorem sI{a b:MP}{v:Nat}(hb:b≠0)(h:a∣b)(hf:b.fr v):a.fr v:=Int.le_trans (dvd_deg hb h v) hf
theorem gV{n:Nat}{a b:MP}(hb:b≠0)(h:a∣b)(hf:b.lo n):a.lo n:=λw d e=>sI hb h (hf w d e)
theorem sK(v:Nat)(a b:MP):(a+b).deg v<=max (a.deg v) (b.deg v):=by refine deg_le_of (by have:=deg_ge v a;omega) λn d=>?_;rw[co_add,co_above oM,co_above (p:=b) oM];grind
theorem GZ(v:Nat)(a:MP):(-a).deg v<=a.deg v:=by refine deg_le_of (deg_ge v a) λn b=>?_;rw[co_neg,co_above oM];grind
theorem nD(v:Nat)(a b:MP):(a-b).deg v<=max (a.deg v) (b.deg v):=by have e:a-b=a+-b:=gR;rw[e];have:=sK v a (-b);have:=GZ v b;omega
theorem QR{n:Nat}{a b:MP}(ha:a.lo n)(hb:b.lo n):(a-b).lo n:=λw d e=>by have:=nD w a b;have h:a.deg w<=0:=ha w d e;have i:b.deg w<=0:=hb w d e;show(a-b).deg w<=0;omega
theorem Bw(v:Nat):(1:MP).deg v=0:=by show max (-1) (Ex.get e0 v)=0;rw[Cj];rfl
theorem sN(v:Nat):(1:MP).fr v:=by show(1:MP).deg v<=0;rw[Bw];omega
theorem Ck(n:Nat):(1:MP).lo n:=λw _ _=>sN w
theorem G5{d:MP}{v:Nat}(hd:d.fr v):d.co v 0=d:=by
 have:=split v d (N:=1) (by have h:d.deg v<=0:=hd;omega);rw[cO,cO]at this;have e:xk v 0=1:=ext' λx=>by rw[ev_xk,ev_one,Rat.pow_zero]
 rw[e]at this;grind
theorem Lh{d:MP}{v:Nat}(hd:d.fr v){n:Nat}(b:0<n):d.co v n=0:=co_above (by have h:d.deg v<=0:=hd;omega)
theorem zn(v n:Nat)(p:MP){w:Nat}(d:w<4)(hv:v<4):(p.co v n).deg w<=max 0 (p.deg w):=by
 rcases(gz (λt=>t.1.get w) (p.co v n).l (-1)).2.2 with e|⟨t,b,e⟩
 ·show aD _ w<=_;unfold aD;rw[e];omega
 ·show aD _ w<=_;unfold aD;rw[<-e];have b:t∈(p.l.filter λu=>u.1.get v=(n:Int)).map λu=>(u.1.put v 0,u.2):=b;obtain⟨u,hu,rfl⟩:=List.mem_map.1 b;by_cases hc:v=w
  ·subst hc;show(u.1.put v 0).get v<=_;rw[Ex.get_put];omega
  ·show(u.1.put v 0).get w<=_;rw[Ex.get_put_ne _ hv d hc];have:=dR (List.mem_filter.1 hu).1 w;have h:p.deg w=aD p.l w:=rfl;omega
theorem I7{n i:Nat}{p:MP}(j:n<4)(hp:p.lo (n+1)):(p.co n i).lo n:=λw d b=>by
 rcases Nat.eq_or_lt_of_le d with e|h
 ·subst e;exact co_fr _ _ _
 ·have:=zn n i p b j;have k:p.deg w<=0:=hp w h b;show(p.co n i).deg w<=0;omega
theorem qh{n:Nat}{p:MP}(hp:p.lo (n+1))(hf:p.fr n):p.lo n:=λw b d=>by
 rcases Nat.eq_or_lt_of_le b with e|h
 ·subst e;exact hf
 ·exact hp w h d
theorem VC{n k:Nat}(d:n<4):(xk n k).lo (n+1):=λw e b=>by show max (-1) ((e0.put n k).get w)<=0;rw[Ex.get_put_ne _ d b oM,Cj];omega
theorem Av{n:Nat}{p:MP}(b:n<4)(hp:p.lo (n+1)):(p.lc n).lo n:=I7 b hp
theorem kL{p:MP}(h:p.lo 0):∃r,p=c r:=by
 refine⟨cf p.l e0,eq_of (p.v.inj (bQ.const _) λe=>?_)⟩;by_cases he:e=e0
 ·subst he;show _=cf (bW _) e0;unfold bW;split
  ·rename_i h0;rw[h0];rfl
  ·rw[bK,if_pos rfl,jK];grind
 ·rw[oG (l:=p.l),oG]
  ·intro t b;show t.1≠e;have b:t∈bW _:=b;unfold bW at b;split at b
   ·cases b
   ·rw[List.mem_singleton.1 b];exact λh=>he h.symm
  ·intro t b d;apply he;rw[<-d];have h0:=fr_get (h 0 oM oM) b;have d:=fr_get (h 1 oM oM) b;have i:=fr_get (h 2 oM oM) b;have j:=fr_get (h 3 oM oM) b;exact Ex.ext' h0 d i j
theorem mR(r s:Rat):c r*c s=c (r*s):=ext' λx=>by rw[ev_mul,ev_c,ev_c,ev_c]
theorem Cm:c 0=0:=rfl
theorem Aw:c 1=1:=rfl
theorem zo{r:Rat}(h:r≠0):(c r).unit:=⟨c r⁻¹,by rw[mR,Rat.mul_inv_cancel _ h];rfl⟩
theorem QS{p:MP}(h:p.lo 0)(hp:p≠0):p.unit:=by obtain⟨r,rfl⟩:=kL h;exact zo λe=>hp (by rw[e];rfl)
theorem Bz{p:MP}(h:p.unit):p≠0:=dvd_ne one_ne h
theorem QT{p:MP}(h:p.unit):p.lo 0:=gV one_ne h (Ck 0)
def mH (n:Nat):Prop:=∀a b:MP,a.lo n->b.lo n->∃g,g.lo n/\jw g a b
theorem Ue:mH 0:=λa b ha hb=>by
 by_cases h:a=0
 ·exact⟨b,hb,by rw[h];exact dvd_zero b,dvd_refl b,λd _ h=>h⟩
 ·exact⟨1,Ck 0,unit_dvd unit_one a,unit_dvd unit_one b,λd e _=>unit_of_dvd e (QS ha h)⟩
structure uG (v:Nat) (c p:MP):Prop where
 f:c.fr v
 d:c∣p
 u:∀d,d.fr v->d∣p->d∣c
def prim (v:Nat) (p:MP):Prop:=∀d,d.fr v->d∣p->d.unit
theorem bZ{v:Nat}{p:MP}(h:p.prim v):p≠0:=λe=>by have:=h 0 (qR v) (by rw[e];exact dvd_refl 0);exact Bz this rfl
theorem jT{v:Nat}{p q:MP}(h:p.prim v)(hd:q∣p):q.prim v:=λd b e=>h d b (dvd_trans e hd)
variable {n:Nat}
theorem XL(G:mH n)(f:Nat->MP):∀N:Nat,(∀i,i<N->(f i).lo n)->∃g,g.lo n/\(∀i,i<N->g∣f i)/\∀d,(∀i,i<N->d∣f i)->d∣g
 | 0,_=>⟨0,Nr n,λi h=>by omega,λd _=>dvd_zero d⟩
 | N+1,h=>by
  obtain⟨g,e,j,m⟩:=XL G f N λi b=>h i oM;obtain⟨k,o,k2⟩:=G g (f N) e (h N oM);refine⟨k,o,λi b=>?_,λd hd=>k2.u d (m d λi b=>hd i oM) (hd N oM)⟩;rcases Nat.lt_or_ge i N with h|h
  ·exact dvd_trans k2.l (j i h)
  ·obtain rfl:i=N:=oM;exact k2.r
theorem Ns(G:mH n)(j:n<4){p:MP}(hp:p.lo (n+1)):∃c,c.lo n/\uG n c p:=by
 obtain⟨g,e,k,l⟩:=XL G (λi=>p.co n i) ((p.deg n).toNat+1) λi _=>I7 j hp;have hf:g.fr n:=e n (nL _) j;refine⟨g,e,hf,(dvd_iff_co hf p).2 λi=>?_,λd hd b=>l d λi _=>(dvd_iff_co hd p).1 b i⟩;rcases Nat.lt_or_ge i ((p.deg n).toNat+1)with h|h
 ·exact k i h
 ·rw[co_above (by have:=deg_ge n p;omega)];exact dvd_zero g
theorem jA{v:Nat}{c p:MP}(h:uG v c p)(hp:p≠0):∃q,p=c*q/\q.prim v/\c≠0:=by obtain⟨q,e⟩:=h.d;have hc:c≠0:=λb=>hp (by rw[e,b];grind);refine⟨q,e,λd hd ⟨x,i⟩=>?_,hc⟩;have j:=h.u (c*d) (wR h.f hd) ⟨x,by rw[e,i];grind⟩;exact unit_cancel hc j
theorem kN(G:mH n)(j:n<4){p:MP}(hp:p.lo (n+1))(h0:p≠0):∃c q,p=c*q/\c.lo n/\c≠0/\q.prim n/\q.lo (n+1)/\uG n c p:=by obtain⟨c,d,b⟩:=Ns G j hp;obtain⟨q,e,h,i⟩:=jA b h0;exact⟨c,q,e,d,i,h,gV h0 (by rw[e];exact dvd_mul_left _ _) hp,b⟩
theorem G6(G:mH n){c s t:MP}(hc:c.lo n)(i:s.lo n)(b:t.lo n)(h0:t≠0)(h:∀d,d∣c->d∣s->d.unit)(hd:c∣s*t):c∣t:=by obtain⟨k,_,k2⟩:=G (t*c) (t*s) (kK b hc) (kK b i);obtain⟨u,rfl⟩:=k2.u t (dvd_mul_right _ _) (dvd_mul_right _ _);have hu:=h u (dvd_cancel h0 k2.l) (dvd_cancel h0 k2.r);have e:=k2.u c (dvd_mul_left _ _) (by rw[(gR:t*s=s*t)];exact hd);obtain⟨w,j⟩:=hu;refine dvd_trans e ⟨w,?_⟩;grind
theorem Nt(G:mH n)(p:n<4){h e d:MP}(m:h.prim n)(j:(e*h).lo (n+1))(he:e.fr n)(hd:d.fr n)(i:d∣e*h):d∣e:=by
 by_cases h0:e=0
 ·rw[h0];exact dvd_zero d
 ·obtain⟨c,_,b⟩:=Ns G p j;obtain⟨u,rfl⟩:=b.u e he (dvd_mul_right _ _);have k:e*h≠0:=mul_ne h0 (bZ m);have l:u∣h:=dvd_cancel h0 b.d;have hu:u.unit:=m u (sI (λo=>dvd_ne k b.d o) (dvd_mul_left u e) b.f) l;obtain⟨w,q⟩:=hu;exact dvd_trans (b.u d hd i) ⟨w,gR⟩
theorem wS(v:Nat){p q:MP}(hp:p≠0)(hq:q≠0):(p*q).co v ((p.deg v).toNat+(q.deg v).toNat)=p.lc v*q.lc v:=O9 λf=>by
 have d:=deg_pos hp v;have e:=deg_pos hq v;have e1:((p.deg v).toNat:Int)=aD p.l v:=by show((aD p.l v).toNat:Int)=_;exact Int.toNat_of_nonneg d
 have b:((q.deg v).toNat:Int)=aD q.l v:=by show((aD q.l v).toNat:Int)=_;exact Int.toNat_of_nonneg e
 have:=Au (p:=p.l) (q:=q.l) v f;rw[lf_mul,<-nZ];show Lf f (aR (canon (prods p.l q.l)) v _)=Lf f (prods (aR p.l v _) (aR q.l v _));rw[e1,b,<-this];rw[Int.natCast_add,e1,b,fO,fO];exact iB (p.v.nat.prods q.v.nat) _
theorem QU{p:MP}(v:Nat):(p-p.lc v*xk v (p.deg v).toNat).deg v<=p.deg v-1\/p=0:=by
 by_cases h0:p=0
 ·exact .inr h0
 ·refine .inl (deg_le_of (by have:=deg_pos h0 v;omega) λk d=>?_);have b:=deg_pos h0 v;rw[co_sub,co_mul_fr (lc_fr v p)];have e:xk v (p.deg v).toNat=xk v (p.deg v).toNat * 1:=gR;rw[e,co_xk,if_pos oM];rcases Nat.eq_or_lt_of_le (oM:(p.deg v).toNat<=k)with e|hlt
  ·rw[<-e,Nat.sub_self,G5 (sN v)];show p.lc v-_=0;grind
  ·rw[Lh (sN v) oM,co_above oM];grind
theorem QW(G:mH n)(k:n<4)(N:Nat)
  (H:∀f g:MP,f.lo (n+1)->g.lo (n+1)->f.prim n->g.prim n->(f.deg n).toNat+(g.deg n).toNat<N->(f*g).prim n)
  {f g:MP} (u:f.lo (n+1)) (x:g.lo (n+1)) (o:f.prim n) (z:g.prim n) (J:(f.deg n).toNat+(g.deg n).toNat<=N) {c:MP} (hc:c.fr n) (hd:c∣f*g):∀d,d∣c->d∣f.lc n->d.unit:=by
 intro d r l;have f0:=bZ o;have B:=bZ z;have i:d.fr n:=sI (dvd_ne (mul_ne f0 B) hd) r hc;have j:=QU (p:=f) n;obtain⟨f1,e1⟩:∃f1,f1=f - f.lc n*xk n (f.deg n).toNat:=⟨_,rfl⟩;rw[<-e1]at j;have s:f1.deg n<=f.deg n - 1:=j.resolve_right f0
 have C:d∣f1*g:=by
  have e:f1*g=f*g-f.lc n*(xk n (f.deg n).toNat * g):=by rw[e1];grind
  rw[e];exact dvd_sub (dvd_trans r hd) (dvd_mul_of l _)
 have b:f=f1+f.lc n*xk n (f.deg n).toNat:=by rw[e1];grind
 by_cases hz:f1=0
 ·refine o d i ?_;rw[b,hz];exact dvd_add (dvd_zero d) (dvd_mul_of l _)
 ·have I:f1.lo (n+1):=by
   rw[e1];exact QR u (kK (lo.mono oM (Av k u)) (VC k))
  obtain⟨e,q,eq,he,E,hq,y,_⟩:=kN G k I hz;have F:q.deg n<=f1.deg n:=dvd_deg hz (by rw[eq];exact dvd_mul_left _ _) n;have hp:=H q g y x hq z (by have:=deg_pos f0 n;have:=deg_pos (bZ hq) n;omega);have m:e.fr n:=he n (nL _) k
  have D:d∣e:=Nt G k (h:=q*g) (e:=e) hp (kK (lo.mono oM he) (kK y x)) m i (by
   have:e*(q*g)=f1*g:=by rw[eq];grind
   rw[this];exact C)
  refine o d i ?_;rw[b];refine dvd_add ?_ (dvd_mul_of l _);rw[eq];exact dvd_mul_of D _
theorem VD(G:mH n)(b:n<4):∀(N:Nat)(f g:MP),f.lo (n+1)->g.lo (n+1)->f.prim n->g.prim n->(f.deg n).toNat+(g.deg n).toNat<N->(f*g).prim n
 | 0,_,_,_,_,_,_,h=>by omega
 | N+1,f,g,lf,lg,pf,pg,hN=>λc hc hd=>by
  have l:=VD G b N;have m:=QW G b N l lf lg pf pg oM hc hd
  have o:=QW G b N l lg lf pg pf oM hc (by
   have e:g*f=f*g:=gR
   rw[e];exact hd)
  have f0:=bZ pf;have d:=bZ pg;have i:=mul_ne f0 d;have j:c∣f.lc n*g.lc n:=by rw[<-wS n f0 d];exact(dvd_iff_co hc _).1 hd _
  have k:c.lo n:=qh (gV i hd (kK lf lg)) hc;have:=G6 G k (Av b lf) (Av b lg) (lc_ne d n) m j;exact o c (dvd_refl c) this
theorem QX(G:mH n)(b:n<4){f g:MP}(d:f.lo (n+1))(e:g.lo (n+1))(h:f.prim n)(i:g.prim n):(f*g).prim n:=VD G b _ f g d e h i (Nat.lt_succ_self _)
theorem A8(G:mH n)(b:n<4){f g c:MP}(i:f.lo (n+1))(m:g.lo (n+1))(o:f.prim n)(hc:c.fr n)(hd:c∣f*g):c∣g:=by
 by_cases h0:g=0
 ·rw[h0];exact dvd_zero c
 ·obtain⟨e,q,rfl,he,l,hq,j,_⟩:=kN G b m h0;have d:e.fr n:=he n (nL _) b
  have k:=Nt G b (h:=f*q) (e:=e) (QX G b i j o hq) (kK (lo.mono oM he) (kK i j)) d hc (by
   have:e*(f*q)=f*(e*q):=gR
   rw[this];exact hd)
  exact dvd_mul_of k _
theorem fA(G:mH n)(i:n<4){f g c:MP}(l:g.lo (n+1))(o:f.prim n)(hc:c.lo n)(h0:c≠0)(hd:f∣c*g):f∣g:=by
 by_cases hg:g=0
 ·rw[hg];exact dvd_zero f
 ·obtain⟨h,e⟩:=hd;have b:=mul_ne h0 hg;have d:(c*g).lo (n+1):=kK (lo.mono oM hc) l;have m:h.lo (n+1):=gV b (by rw[e];exact dvd_mul_left _ _) d;have k:f.lo (n+1):=gV b (by rw[e];exact dvd_mul_right _ _) d;obtain⟨j,rfl⟩:=A8 G i k m o (hc n (nL _) i) (by rw[<-e];exact dvd_mul_right _ _);exact⟨j,cancel h0 (by rw[e];grind)⟩
def red (v:Nat) (p q:MP):MP:=q.lc v*p-p.lc v*(xk v ((p.deg v).toNat-(q.deg v).toNat)*q)
theorem Uf{v:Nat}{p q:MP}(hp:p≠0)(hq:q≠0)(h:q.deg v<=p.deg v)(i:0<p.deg v):(red v p q).deg v<=p.deg v-1:=by
 have d:=deg_pos hq v;refine deg_le_of oM λk j=>?_;rw[red,co_sub,co_mul_fr (lc_fr v q),co_mul_fr (lc_fr v p),co_xk,if_pos oM];rcases Nat.eq_or_lt_of_le (oM:(p.deg v).toNat<=k)with e|hlt
 ·have b:k-((p.deg v).toNat-(q.deg v).toNat)=(q.deg v).toNat:=oM;rw[b,<-e];show q.lc v*p.lc v-p.lc v*q.lc v=0;grind
 ·rw[co_above (p:=p) oM,co_above (p:=q) oM];grind
theorem Wi(b:n<4){p q:MP}(hp:p.lo (n+1))(hq:q.lo (n+1)):(red n p q).lo (n+1) :=
 QR (kK (lo.mono oM (Av b hq)) hp) (kK (lo.mono oM (Av b hp)) (kK (VC b) hq))
theorem I8(G:mH n)(i:n<4):∀(N:Nat)(p q:MP),p.lo (n+1)->q.lo (n+1)->p.prim n->q.prim n->(p.deg n).toNat+(q.deg n).toNat<N->∃h,h.lo (n+1)/\jw h p q
 | 0,_,_,_,_,_,_,h=>by omega
 | N+1,p,q,m,j,s,b,D=>by
  have B:=bZ s;have x:=bZ b
  have key:∀p q:MP,p.lo (n+1)->q.lo (n+1)->p.prim n->q.prim n->(p.deg n).toNat+(q.deg n).toNat<N+1->q.deg n<=p.deg n->∃h,h.lo (n+1)/\jw h p q:=by
   intro p q m j s b D lv;have B:=bZ s;have x:=bZ b;rcases Int.lt_or_le 0 (q.deg n)with hq|hq
   ·have E:=Uf B x lv oM;have C:q.lc n*p=red n p q+p.lc n*(xk n ((p.deg n).toNat-(q.deg n).toNat)*q):=by unfold red;grind
    by_cases hz:red n p q=0
    ·refine⟨q,j,fA G i m b (Av i j) (lc_ne x n) ?_,dvd_refl q,λd _ h=>h⟩;rw[C,hz];exact dvd_add (dvd_zero q) (dvd_mul_of' (dvd_mul_left _ _) _)
    ·obtain⟨e,r,eq,he,z,F,lr,_⟩:=kN G i (Wi i m j) hz;have H:r.deg n<=(red n p q).deg n:=dvd_deg hz (by rw[eq];exact dvd_mul_left _ _) n;obtain⟨h,J,o⟩:=I8 G i N q r j lr b F (by have:=deg_pos B n;have:=deg_pos (bZ F) n;omega);refine⟨h,J,fA G i m (jT b o.l) (Av i j) (lc_ne x n) ?_,o.l,λd y k=>o.u d k ?_⟩
     ·rw[C];refine dvd_add ?_ (dvd_mul_of' (dvd_trans o.l (dvd_mul_left _ _)) _);rw[eq];exact dvd_trans o.r (dvd_mul_left _ _)
     ·refine fA G i lr (jT b k) he z ?_;rw[<-eq];unfold red;exact dvd_sub (dvd_mul_of' y _) (dvd_mul_of' (dvd_mul_of' k _) _)
   ·have hu:q.unit:=b q hq (dvd_refl q);exact⟨1,Ck _,unit_dvd unit_one p,unit_dvd unit_one q,λd _ k=>unit_of_dvd k hu⟩
  rcases Int.le_total (q.deg n) (p.deg n)with h|h
  ·exact key p q m j s b D h
  ·obtain⟨g,I,hg⟩:=key q p j m b s oM h;exact⟨g,I,hg.r,hg.l,λd y k=>hg.u d k y⟩
theorem I9(i:n<4)(G:mH n):mH (n+1):=λa b s lb=>by
 by_cases ha:a=0
 ·exact⟨b,lb,by rw[ha];exact dvd_zero b,dvd_refl b,λd _ h=>h⟩
 by_cases hb:b=0
 ·exact⟨a,s,dvd_refl a,by rw[hb];exact dvd_zero a,λd h _=>h⟩
 obtain⟨c,p,rfl,hc,c0,J,B,E⟩:=kN G i s ha;obtain⟨d,q,rfl,hd,d0,K,C,o⟩:=kN G i lb hb;obtain⟨g,F,hg⟩:=G c d hc hd;obtain⟨h,H,m⟩:=I8 G i _ p q B C J K (Nat.lt_succ_self _);refine⟨g*h,kK (lo.mono oM F) H,mul_dvd hg.l m.l,mul_dvd hg.r m.r,λx k z=>?_⟩;have x0:=dvd_ne ha k;have I:=gV ha k s;obtain⟨e,y,rfl,he,e0,D,L,_⟩:=kN G i I x0;have j:e.fr n:=he n (nL _) i;refine mul_dvd (hg.u e ?_ ?_) (m.u y ?_ ?_)
 ·exact E.u e j (dvd_trans (dvd_mul_right _ _) k)
 ·exact o.u e j (dvd_trans (dvd_mul_right _ _) z)
 ·exact fA G i B D hc c0 (dvd_trans (dvd_mul_left _ _) k)
 ·exact fA G i C D hd d0 (dvd_trans (dvd_mul_left _ _) z)
theorem oI:∀n,n<=4->mH n
 | 0,_=>Ue
 | n+1,h=>I9 (by omega) (oI n (by omega))
end MP
end Q
end
