/- Short steps' ends: a tactic that closes a goal, as a term. -/
import Derived.IntWalk
set_option linter.unusedVariables false
set_option linter.unusedSimpArgs false
set_option maxHeartbeats 16000000
set_option maxRecDepth 100000
section
theorem oM{p:Prop}(h:p:=by omega):p:=h
theorem dM{p:Prop}(h:p:=by decide):p:=h
theorem dK{p:Prop}(h:p:=by decide +kernel):p:=h
theorem sM{p:Prop}(h:p:=by simp):p:=h
theorem gR{p:Prop}(h:p:=by grind):p:=h
theorem aM{p:Prop}(h:p:=by assumption):p:=h
theorem kM{p:Prop}(h:p:=by kernel_rfl):p:=h
theorem nM{p:Prop}(h:p:=by go_num):p:=h
end
section
namespace Q
abbrev Ex:=Int × Int × Int × Int
def Ex.get (e:Ex) (v:Nat):Int:=match v with|0=>e.1|1=>e.2.1|2=>e.2.2.1|_=>e.2.2.2
def Ex.put (e:Ex) (v:Nat) (x:Int):Ex:=match v with|0=>(x,e.2.1,e.2.2.1,e.2.2.2)|1=>(e.1,x,e.2.2.1,e.2.2.2)|2=>(e.1,e.2.1,x,e.2.2.2)|_=>(e.1,e.2.1,e.2.2.1,x)
def Ex.add (e f:Ex):Ex:=(e.1+f.1,e.2.1+f.2.1,e.2.2.1+f.2.2.1,e.2.2.2+f.2.2.2)
def Ex.sub (e f:Ex):Ex:=(e.1-f.1,e.2.1-f.2.1,e.2.2.1-f.2.2.1,e.2.2.2-f.2.2.2)
def Ex.nat (e:Ex):Bool:=decide (0<=e.1/\0<=e.2.1/\0<=e.2.2.1/\0<=e.2.2.2)
def Ex.gt (e f:Ex):Bool:=decide (f.2.2.2<e.2.2.2\/f.2.2.2=e.2.2.2/\(f.2.2.1<e.2.2.1\/f.2.2.1=e.2.2.1/\(f.2.1<e.2.1\/f.2.1=e.2.1/\f.1<e.1)))
theorem Ex.nat_iff{e:Ex}:e.nat=true↔0<=e.1/\0<=e.2.1/\0<=e.2.2.1/\0<=e.2.2.2:=decide_eq_true_iff
theorem Ex.gt_iff{e f:Ex}:e.gt f=true↔(f.2.2.2<e.2.2.2\/f.2.2.2=e.2.2.2/\(f.2.2.1<e.2.2.1\/f.2.2.1=e.2.2.1/\(f.2.1<e.2.1\/f.2.1=e.2.1/\f.1<e.1))):=decide_eq_true_iff
theorem Ex.ext'{e f:Ex}(j:e.1=f.1)(i:e.2.1=f.2.1)(l:e.2.2.1=f.2.2.1)(h:e.2.2.2=f.2.2.2):e=f:=by obtain⟨a,b,c,d⟩:=e;obtain⟨a',k,c',d'⟩:=f;simp_all
theorem Ex.gt_irrefl(e:Ex):e.gt e=false:=by simp[Ex.gt]
theorem Ex.gt_trans{e f g:Ex}(b:e.gt f=true)(d:f.gt g=true):e.gt g=true:=by simp only[Ex.gt,decide_eq_true_eq]at *;omega
theorem Ex.gt_ne{e f:Ex}(h:e.gt f=true):e≠f:=by rintro rfl;rw[Ex.gt_irrefl]at h;cases h
theorem Ex.gt_asymm{e f:Ex}(h:e.gt f=true):f.gt e=false:=by
 cases hf:f.gt e
 ·rfl
 ·have:=Ex.gt_trans h hf;rw[Ex.gt_irrefl]at this;cases this
theorem Ex.gt_total{e f:Ex}(h:e.gt f=false)(i:e≠f):f.gt e=true:=by obtain⟨a,b,c,d⟩:=e;obtain⟨a',j,c',d'⟩:=f;simp only[Ex.gt,decide_eq_true_eq,decide_eq_false_iff_not]at *;simp only[ne_eq,Prod.mk.injEq]at i;omega
theorem Ex.add_comm(e f:Ex):e.add f=f.add e:=by simp only[Ex.add];refine Ex.ext' ?_ ?_ ?_ ?_<;>simp only<;>omega
theorem Ex.zero_add(e:Ex):Ex.add (0,0,0,0) e=e:=by simp[Ex.add]
theorem Ex.gt_add{e f:Ex}(g:Ex):(g.add e).gt (g.add f)=e.gt f:=by rw[Bool.eq_iff_iff,Ex.gt_iff,Ex.gt_iff];simp only[Ex.add];omega
theorem Ex.nat_add{e f:Ex}(h:e.nat=true)(b:f.nat=true):(e.add f).nat=true:=by rw[Ex.nat_iff]at *;simp only[Ex.add];omega
theorem Ex.nat_get{e:Ex}(h:e.nat=true)(v:Nat):0<=e.get v:=by simp only[Ex.nat,decide_eq_true_eq]at h;unfold Ex.get;split<;>omega
abbrev ai:=Ex × Rat
def FM (l:List ai):Prop:=l.Pairwise (λs t=>s.1.gt t.1=true)
def bR (l:List ai):Prop:=FM l/\∀t∈l,t.2≠0/\t.1.nat=true
def Lf (f:Ex->Rat):List ai->Rat
 | []=>0
 | t::l=>t.2*f t.1+Lf f l
def cf (l:List ai) (e:Ex):Rat:=Lf (λx=>if x=e then 1 else 0) l
def Mi (l r:List ai):Prop:=∀f,Lf f l=Lf f r
theorem Mi.refl(l:List ai):Mi l l:=λ_=>rfl
theorem J7(f:Ex->Rat):Lf f []=0:=rfl
theorem ry(f:Ex->Rat)(t:ai)(l:List ai):Lf f (t::l)=t.2*f t.1+Lf f l:=rfl
theorem oK(f:Ex->Rat)(l r:List ai):Lf f (l++r)=Lf f l+Lf f r:=by
 induction l with
 | nil=>simp only[List.nil_append,Lf];grind
 | cons t l b=>simp only[List.cons_append,Lf,b];grind
theorem Ar(f:Ex->Rat)(c:Rat)(l:List ai):Lf (λe=>c*f e) l=c*Lf f l:=by
 induction l with
 | nil=>simp[Lf]
 | cons t l b=>simp only[Lf,b];grind
theorem Mj(l:List ai):Lf (λ_=>0) l=0:=by
 induction l with
 | nil=>rfl
 | cons t l b=>simp only[Lf,b];grind
theorem jG{f g:Ex->Rat}{l:List ai}(h:∀t∈l,f t.1=g t.1):Lf f l=Lf g l:=by
 induction l with
 | nil=>rfl
 | cons t l b=>simp only[Lf,h t sM,b (λs d=>h s (by simp[d]))]
theorem yn(f:Ex->Rat)(g:ai->ai)(k:Ex->Rat)(l:List ai)(h:∀t∈l,(g t).2*f (g t).1=t.2*k t.1):Lf f (l.map g)=Lf k l:=by
 induction l with
 | nil=>rfl
 | cons t l b=>simp only[List.map_cons,Lf,h t sM,b (λs d=>h s (by simp[d]))]
theorem N7(f:Ex->Rat)(e:Ex)(l:List ai):Lf f l=cf l e*f e+Lf f (l.filter (λt=>t.1 != e)):=by
 induction l with
 | nil=>simp only[Lf,cf,List.filter_nil];grind
 | cons t l b =>
  unfold cf at *;by_cases h:t.1=e
  ·subst h;simp[Lf,b];grind
  ·have d:(t.1 != e)=true:=bne_iff_ne.2 h;simp[Lf,h,b,d];grind
theorem N8(e b:Ex)(l:List ai):cf (l.filter (λt=>t.1 != e)) b=if b=e then 0 else cf l b:=by
 induction l with
 | nil=>simp[cf,Lf]
 | cons t l d =>
  unfold cf at *;by_cases h:t.1=e
  ·subst h;simp only[List.filter_cons,bne_self_eq_false,Bool.false_eq_true,if_false,d,Lf];split
   ·rfl
   ·rename_i h;rw[if_neg (Ne.symm h)];grind
  ·have i:(t.1 != e)=true:=bne_iff_ne.2 h;simp only[List.filter_cons,i,if_true,Lf,d];split
   ·subst b;rw[if_neg h];grind
   ·grind
theorem AZ:∀(n:Nat)(l:List ai),l.length<=n->(∀e,cf l e=0)->∀f,Lf f l=0
 | _,[],_,_,_=>rfl
 | 0,_::_,h,_,_=>by simp at h
 | n+1,t::l,hl,h,f=>by
  rw[N7 f t.1,h,AZ n _ ?_ ?_]
  ·grind
  ·have:((t::l).filter (λs=>s.1 != t.1)).length<=l.length:=by
    simp only[List.filter_cons,bne_self_eq_false,Bool.false_eq_true,if_false];exact List.length_filter_le _ _
   simp at hl;omega
  ·intro e;rw[N8];split
   ·rfl
   ·exact h e
theorem oL(l r:List ai)(e:Ex):cf (l++r) e=cf l e+cf r e:=oK _ _ _
def FN (l:List ai):List ai:=l.map (λt=>(t.1,-t.2))
theorem FO(f:Ex->Rat)(l:List ai):Lf f (FN l)=- Lf f l:=by
 induction l with
 | nil=>simp[Lf,FN]
 | cons t l b=>simp only[FN,List.map_cons,Lf]at *;grind
theorem N9{l r:List ai}(h:∀e,cf l e=cf r e):Mi l r:=λf=>by have:=AZ _ (l++FN r) (Nat.le_refl _) (λe=>by rw[oL];have:=h e;unfold cf at *;rw[FO];grind) f;rw[oK,FO]at this;grind
theorem Mi.cf{l r:List ai}(h:Mi l r)(e:Ex):cf l e=cf r e:=h _
theorem jq(e:Ex):cf [] e=0:=rfl
theorem bJ(t:ai)(l:List ai)(e:Ex):cf (t::l) e=(if t.1=e then t.2 else 0)+cf l e:=by simp only[cf,Lf];split<;>grind
theorem nR{l:List ai}{e:Ex}(h:∀t∈l,t.1≠e):cf l e=0:=by
 induction l with
 | nil=>rfl
 | cons t l b=>rw[bJ,b (λs d=>h s (by simp[d])),if_neg (h t sM)];grind
theorem FM.tail{t:ai}{l:List ai}(h:FM (t::l)):FM l:=(List.pairwise_cons.1 h).2
theorem FM.head{t:ai}{l:List ai}(h:FM (t::l)):∀s∈l,t.1.gt s.1=true:=(List.pairwise_cons.1 h).1
theorem bR.nil:bR []:=⟨List.Pairwise.nil,λ_ h=>by cases h⟩
theorem bR.tail{t:ai}{l:List ai}(h:bR (t::l)):bR l:=⟨h.1.tail,λs b=>h.2 s (by simp[b])⟩
theorem bR.cf_head{t:ai}{l:List ai}(h:bR (t::l)):cf (t::l) t.1=t.2:=by rw[bJ,if_pos rfl,nR (λs b=>(Ex.gt_ne (h.1.head s b)).symm)];grind
theorem bR.cf_top{t:ai}{l:List ai}(h:bR (t::l)){e:Ex}(he:e.gt t.1=true):cf (t::l) e=0:=by
 refine nR λs b=>?_;rcases List.mem_cons.1 b with rfl|b
 ·exact(Ex.gt_ne he).symm
 ·exact(Ex.gt_ne (Ex.gt_trans he (h.1.head s b))).symm
theorem bR.inj:∀{l r:List ai},bR l->bR r->(∀e,cf l e=cf r e)->l=r
 | [],[],_,_,_=>rfl
 | [],t::r,_,hr,h=>absurd ((hr.cf_head).symm.trans (h t.1).symm) (hr.2 t (by simp)).1
 | t::l,[],hl,_,h=>absurd ((hl.cf_head).symm.trans (h t.1)) (hl.2 t (by simp)).1
 | t::l,s::r,hl,hr,h=>by
  have he:t.1=s.1:=by
   rcases hc:t.1.gt s.1 with _|_
   ·by_cases b:t.1=s.1
    ·exact b
    ·have d:=Ex.gt_total hc b;exact absurd (by rw[<-hr.cf_head,<-h];exact hl.cf_top d) (hr.2 s sM).1
   ·exact absurd (by rw[<-hl.cf_head,h];exact hr.cf_top hc) (hl.2 t sM).1
  have i:t.2=s.2:=by rw[<-hl.cf_head,<-hr.cf_head,h,he]
  have j:t=s:=Prod.ext he i;subst j;rw[bR.inj hl.tail hr.tail λe=>?_];have:=h e;rw[bJ,bJ]at this;grind
theorem bR.eqv_inj{l r:List ai}(d:bR l)(b:bR r)(h:Mi l r):l=r:=d.inj b h.cf
def ins:List ai->ai->List ai
 | [],m=>if m.2≠0/\m.1.nat=true then [m]else []
 | t::r,m=>if t.1.gt m.1 then t::ins r m else if t.1=m.1 then(if m.2+t.2≠0/\m.1.nat=true then(m.1,m.2+t.2)::r else r)else if m.2≠0/\m.1.nat=true then m::t::r else t::r
theorem Mk{l:List ai}{m s:ai}(h:s∈ins l m):s.1=m.1\/s∈l:=by
 induction l with
 | nil=>unfold ins at h;split at h<;>simp at h;exact .inl (by rw[h])
 | cons t r b =>
  unfold ins at h;split at h
  ·rcases List.mem_cons.1 h with rfl|h
   ·exact .inr sM
   ·exact(b h).imp id (λh=>by simp[h])
  ·split at h
   ·split at h
    ·rcases List.mem_cons.1 h with rfl|h
     ·exact .inl rfl
     ·exact .inr (by simp[h])
    ·exact .inr (by simp[h])
   ·split at h
    ·rcases List.mem_cons.1 h with rfl|h
     ·exact .inl rfl
     ·exact .inr h
    ·exact .inr h
theorem bR.ins{l:List ai}{m:ai}(h:bR l):bR (ins l m):=by
 induction l with
 | nil =>
  unfold Q.ins;split
  ·rename_i h;exact⟨List.pairwise_singleton _ _,λs b=>by simp at b;subst b;exact h⟩
  ·exact bR.nil
 | cons t r j =>
  unfold Q.ins;split
  ·rename_i hg;refine⟨List.pairwise_cons.2 ⟨λs b=>?_,(j h.tail).1⟩,λs b=>?_⟩
   ·rcases Mk b with e|b
    ·rw[e];exact hg
    ·exact h.1.head s b
   ·rcases List.mem_cons.1 b with rfl|b
    ·exact h.2 _ sM
    ·exact(j h.tail).2 s b
  ·rename_i hg;split
   ·rename_i he;split
    ·rename_i hc;refine⟨List.pairwise_cons.2 ⟨λs b=>?_,h.1.tail⟩,λs b=>?_⟩
     ·have:=h.1.head s b;rw[he]at this;exact this
     ·rcases List.mem_cons.1 b with rfl|b
      ·exact hc
      ·exact h.2 s (by simp[b])
    ·exact h.tail
   ·rename_i i;split
    ·rename_i hc;have d:=Ex.gt_total (by simpa using hg) i;refine⟨List.pairwise_cons.2 ⟨λs b=>?_,h.1⟩,λs b=>?_⟩
     ·rcases List.mem_cons.1 b with rfl|b
      ·exact d
      ·exact Ex.gt_trans d (h.1.head s b)
     ·rcases List.mem_cons.1 b with rfl|b
      ·exact hc
      ·exact h.2 s b
    ·exact h
theorem UY{l:List ai}{m:ai}(h:bR l)(e:Ex):cf (ins l m) e=cf l e+if m.1.nat=true/\m.1=e then m.2 else 0:=by
 induction l with
 | nil=>unfold ins;split<;>simp only[bJ,jq]<;>grind
 | cons t r b =>
  unfold ins;split
  ·rw[bJ,b h.tail,bJ];grind
  ·split
   ·rename_i he;have:=(h.2 t sM).2;split<;>simp only[bJ]<;>grind
   ·split<;>simp only[bJ]<;>grind
def canon (l:List ai):List ai:=l.foldl ins []
theorem Eo{l r:List ai}(h:bR r):bR (l.foldl ins r)/\∀e,cf (l.foldl ins r) e=cf r e+if e.nat=true then cf l e else 0:=by
 induction l generalizing r with
 | nil=>exact⟨h,λe=>by simp only[List.foldl_nil,jq];split<;>grind⟩
 | cons t l d =>
  obtain⟨i,b⟩:=d (h.ins (m:=t));refine⟨i,λe=>?_⟩;rw[List.foldl_cons,b,UY h,bJ];grind
theorem fA(l:List ai):bR (canon l):=(Eo bR.nil).1
theorem nD(l:List ai)(e:Ex):cf (canon l) e=if e.nat=true then cf l e else 0:=by have:=(Eo (l:=l) bR.nil).2 e;rw[jq]at this;unfold canon;rw[this];grind
def dO (l:List ai):Prop:=∀t∈l,t.1.nat=true
theorem kJ{l:List ai}(h:dO l):Mi (canon l) l:=N9 λe=>by
 rw[nD];split
 ·rfl
 ·rename_i d;exact(nR λt b he=>d (by rw[<-he];exact h t b)).symm
theorem PI{l r:List ai}(h:dO l)(b:bR r)(he:Mi r l):canon l=r:=(fA l).inj b λe=>by rw[(kJ h).cf,he.cf]
theorem bR.nat{l:List ai}(h:bR l):dO l:=λt b=>(h.2 t b).2
theorem G9{l:List ai}(h:bR l):canon l=l:=PI h.nat h (Mi.refl _)
theorem zI{l r:List ai}(h:∀e,e.nat=true->cf l e=cf r e):canon l=canon r:=(fA l).inj (fA r) λe=>by
 rw[nD,nD];split
 ·rename_i he;exact h e he
 ·rfl
theorem Mi.canon{l r:List ai}(h:Mi l r):canon l=canon r:=zI λe _=>h.cf e
end Q
end
section
namespace Q
abbrev Pt:=Rat × Rat × Rat × Rat
def Pt.get (x:Pt) (v:Nat):Rat:=match v with|0=>x.1|1=>x.2.1|2=>x.2.2.1|_=>x.2.2.2
def Pt.put (x:Pt) (v:Nat) (c:Rat):Pt:=match v with|0=>(c,x.2.1,x.2.2.1,x.2.2.2)|1=>(x.1,c,x.2.2.1,x.2.2.2)|2=>(x.1,x.2.1,c,x.2.2.2)|_=>(x.1,x.2.1,x.2.2.1,c)
def wP (x:Pt) (e:Ex):Rat:=x.1^e.1.toNat * x.2.1^e.2.1.toNat * x.2.2.1^e.2.2.1.toNat * x.2.2.2^e.2.2.2.toNat
def ev (x:Pt) (l:List ai):Rat:=Lf (wP x) l
theorem jf(x:Pt):ev x []=0:=rfl
theorem kK(x:Pt)(t:ai)(l:List ai):ev x (t::l)=t.2*wP x t.1+ev x l:=rfl
theorem oN(x:Pt)(l r:List ai):ev x (l++r)=ev x l+ev x r:=oK _ _ _
theorem nE{l:List ai}(h:dO l)(x:Pt):ev x (canon l)=ev x l:=(kJ h) _
theorem oW(x:Rat)(m n:Nat):x^(m+n)=x^m*x^n:=by
 induction n with
 | zero=>simp[Rat.pow_zero]
 | succ n b=>rw[<-Nat.add_assoc,Rat.pow_succ,b,Rat.pow_succ];grind
theorem PK(x:Rat)(m n:Nat):x^(m*n)=(x^m)^n:=by
 induction n with
 | zero=>simp[Rat.pow_zero]
 | succ n b=>rw[Nat.mul_succ,oW,b,Rat.pow_succ]
theorem Ml(x:Pt){e f:Ex}(he:e.nat=true)(hf:f.nat=true):wP x (e.add f)=wP x e*wP x f:=by rw[Ex.nat_iff]at he hf;simp only[wP,Ex.add,Int.toNat_add,he,hf,oW];grind
def bH (c:Rat):Rat:=if c<0 then -c else c
def bI:List ai->Rat
 | []=>0
 | t::l=>bH t.2+bI l
theorem lW(l:List ai):0<=bI l:=by
 induction l with
 | nil=>exact Rat.le_refl
 | cons t l b=>simp only[bI,bH];split<;>grind
theorem yo{T:Rat}(l:1<=T){m n:Nat}(h:m<=n):0<=T^m/\T^m<=T^n:=by
 obtain⟨d,rfl⟩:=Nat.exists_eq_add_of_le h
 have b:∀k:Nat,1<=T^k:=by
  intro k
  induction k with
  | zero=>rw[Rat.pow_zero];exact Rat.le_refl
  | succ k e =>
   rw[Rat.pow_succ];have:1*T<=T^k*T:=Rat.mul_le_mul_of_nonneg_right e gR;grind
 have j:=b m;have i:=b d;refine⟨gR,?_⟩;rw[oW];have:T^m*1<=T^m*T^d:=Rat.mul_le_mul_of_nonneg_left i gR;grind
def Mm (K:Nat) (e:Ex):Nat:=e.1.toNat+K*(e.2.1.toNat+K*(e.2.2.1.toNat+K*e.2.2.2.toNat))
def Ww (K:Nat) (T:Rat):Pt:=(T,T^K,T^(K*K),T^(K*(K*K)))
theorem Mo(K:Nat)(T:Rat)(e:Ex):wP (Ww K T) e=T^Mm K e:=by simp only[wP,Ww,Mm,Nat.mul_add,oW,<-PK,Nat.mul_assoc];grind
theorem PL{K:Nat}{e f:Ex}(he:e.nat=true)(hf:f.nat=true)(h:e.gt f=true)(b0:f.1<K)(b1:f.2.1<K)(m:f.2.2.1<K):Mm K f<Mm K e:=by
 rw[Ex.gt_iff]at h;rw[Ex.nat_iff]at he hf;obtain⟨a,b,c,d⟩:=e;obtain⟨a',o,c',d'⟩:=f;simp only[Mm]at *
 have key:∀p q p' j:Nat,p' < K->j < q->p'+K*j < p+K*q:=by intro p q p' j l i;have:K*(j+1)<=K*q:=Nat.mul_le_mul_left K i;rw[Nat.mul_succ]at this;omega
 have key2:∀p q p' j:Nat,p' < p->j=q->p'+K*j < p+K*q:=by intro p q p' j l i;rw[i];omega
 rcases h with h|⟨h,i⟩
 ·exact key _ _ _ _ oM (key _ _ _ _ oM (key _ _ _ _ oM oM))
 ·rcases i with i|⟨i,k⟩
  ·exact key _ _ _ _ oM (key _ _ _ _ oM (key2 _ _ _ _ oM oM))
  ·rcases k with k|⟨k,n⟩
   ·exact key _ _ _ _ oM (key2 _ _ _ _ oM (by rw[h,i]))
   ·exact key2 _ _ _ _ oM (by rw[h,i,k])
theorem A7{K:Nat}{T:Rat}(d:1<=T)(N:Nat):∀l:List ai,(∀t∈l,Mm K t.1<=N)->- (bI l*T^N)<=ev (Ww K T) l/\ev (Ww K T) l<=bI l*T^N
 | [],_=>by simp only[jf,bI];constructor<;>grind
 | t::l,h=>by
  obtain⟨k,j⟩:=A7 d N l (λs e=>h s (by simp[e]));obtain⟨b,i⟩:=yo d (h t sM);rw[kK,Mo];simp only[bI];have m:bH t.2*T^Mm K t.1<=bH t.2*T^N:=Rat.mul_le_mul_of_nonneg_left i (by unfold bH;split<;>grind)
  have n:- (bH t.2*T^Mm K t.1)<=t.2*T^Mm K t.1/\t.2*T^Mm K t.1<=bH t.2*T^Mm K t.1:=by
   unfold bH;split
   ·have:0<=(-t.2)*T^Mm K t.1:=Rat.mul_nonneg gR b;constructor<;>grind
   ·have:0<=t.2*T^Mm K t.1:=Rat.mul_nonneg gR b;constructor<;>grind
  constructor<;>grind
theorem Ep:∀l:List ai,∃K:Nat,∀t∈l,t.1.1<K/\t.1.2.1<K/\t.1.2.2.1<K
 | []=>⟨0,λ_ h=>by cases h⟩
 | t::l=>by
  obtain⟨K,h⟩:=Ep l;refine⟨K+t.1.1.toNat+t.1.2.1.toNat+t.1.2.2.1.toNat+1,λs b=>?_⟩;rcases List.mem_cons.1 b with rfl|b
  ·omega
  ·have:=h s b;omega
theorem Wx{t:ai}{l:List ai}(h:bR (t::l)):∃x,ev x (t::l)≠0:=by
 obtain⟨K,b⟩:=Ep (t::l);have hc:=(h.2 t sM).1;have n:=lW l;have i:0<bH t.2:=by unfold bH;split<;>grind
 have j:0<=(bH t.2)⁻¹:=Rat.le_of_lt (Rat.inv_pos.2 i);obtain⟨T,q⟩:∃T,T=bI l*(bH t.2)⁻¹+1:=⟨_,rfl⟩;have m:1<=T:=by have:=Rat.mul_nonneg n j;grind
 have hb:bI l<bH t.2*T:=by
  have u:(bH t.2)⁻¹*bH t.2=1:=Rat.inv_mul_cancel _ gR;have o:bH t.2*T=bI l+bH t.2:=by rw[q];grind
  rw[o];grind
 refine⟨Ww K T,λk=>?_⟩;rw[kK,Mo]at k;obtain⟨N,p⟩:∃N,N=Mm K t.1:=⟨_,rfl⟩;rw[<-p]at k
 cases N with
 | zero =>
  cases l with
  | nil=>rw[jf,Rat.pow_zero]at k;grind
  | cons s l =>
   have:=PL (h.2 t sM).2 (h.2 s sM).2 (h.1.head s sM) (b s sM).1 (b s sM).2.1 (b s sM).2.2;omega
 | succ N =>
  have r:=A7 (K:=K) m N l (λs e=>by
   have:=PL (h.2 t sM).2 (h.2 s (by simp[e])).2 (h.1.head s e) (b s (by simp[e])).1 (b s (by simp[e])).2.1 (b s (by simp[e])).2.2
   omega)
  have hp:0<T^N:=Rat.pow_pos gR;have d:bI l*T^N<bH t.2*T*T^N:=Rat.mul_lt_mul_of_pos_right hb hp;rw[Rat.pow_succ]at k;unfold bH at d;split at d<;>grind
theorem yt{l r:List ai}(j:bR l)(i:bR r)(h:∀x,ev x l=ev x r):l=r:=by
 have k:dO (l++FN r):=λt b=>by
  rcases List.mem_append.1 b with b|b
  ·exact j.nat t b
  ·simp only[FN,List.mem_map]at b;obtain⟨s,m,rfl⟩:=b;exact i.nat s m
 have hz:∀x,ev x (canon (l++FN r))=0:=λx=>by have:=h x;rw[nE k,oN];unfold ev at *;rw[FO];grind
 have d:canon (l++FN r)=[]:=by
  cases hc:canon (l++FN r)with
  | nil=>rfl
  | cons t q =>
   obtain⟨x,e⟩:=Wx (by rw[<-hc];exact fA _);rw[<-hc]at e;exact absurd (hz x) e
 refine j.eqv_inj i λf=>?_;have:=kJ k f;rw[d,oK,FO,J7]at this;grind
theorem Oa{l r:List ai}(d:dO l)(b:bR r)(h:∀x,ev x l=ev x r):canon l=r :=
 yt (fA _) b λx=>by rw[nE d,h]
end Q
end
section
namespace Q
structure Sz where
 D:Nat
 B:Nat
 E:Nat
 N:Nat
def Dv (D:Nat) (c:Rat):Prop:=∃k:Int,c*(D:Rat)=(k:Rat)
structure Bd (s:Sz) (l:List ai):Prop where
 n:l.length<=s.N
 e:∀t∈l,-(s.E:Int)<=t.1.1/\t.1.1<=s.E/\-(s.E:Int)<=t.1.2.1/\t.1.2.1<=s.E/\-(s.E:Int)<=t.1.2.2.1/\t.1.2.2.1<=s.E/\-(s.E:Int)<=t.1.2.2.2/\t.1.2.2.2<=s.E
 d:∀t∈l,Dv s.D t.2
 b:bI l<=(s.B:Rat)
def Sz.add (s t:Sz):Sz:=⟨Nat.lcm s.D t.D,s.B+t.B,max s.E t.E,s.N+t.N⟩
def Sz.mul (s t:Sz):Sz:=⟨s.D*t.D,s.B*t.B,s.E+t.E,s.N*t.N⟩
def Sz.ok (s:Sz):Prop:=0<s.D/\s.D<65536/\s.B<2^1000/\s.E<1000000/\s.N<1000000
instance (s:Sz):Decidable s.ok:=by unfold Sz.ok;infer_instance
def Sz.le (s t:Sz):Prop:=s.D∣t.D/\s.B<=t.B/\s.E<=t.E/\s.N<=t.N
instance (s t:Sz):Decidable (s.le t):=by unfold Sz.le;infer_instance
theorem Dv.dvd{D b:Nat}{c:Rat}(h:Dv D c)(hd:D∣b):Dv b c:=by obtain⟨k,d⟩:=h;obtain⟨m,rfl⟩:=hd;exact⟨k*m,by rw[Rat.intCast_mul,Rat.intCast_natCast,Rat.natCast_mul];grind⟩
theorem Dv.add{D:Nat}{c d:Rat}(h:Dv D c)(b:Dv D d):Dv D (c+d):=by obtain⟨k,e⟩:=h;obtain⟨m,hm⟩:=b;exact⟨k+m,by rw[Rat.intCast_add];grind⟩
theorem Dv.mul{D b:Nat}{c d:Rat}(h:Dv D c)(e:Dv b d):Dv (D*b) (c*d):=by obtain⟨k,i⟩:=h;obtain⟨m,hm⟩:=e;exact⟨k*m,by rw[Rat.intCast_mul,Rat.natCast_mul];grind⟩
theorem Dv.neg{D:Nat}{c:Rat}(h:Dv D c):Dv D (-c):=by obtain⟨k,b⟩:=h;exact⟨-k,by rw[Rat.intCast_neg];grind⟩
theorem Dv.zero(D:Nat):Dv D 0:=⟨0,sM⟩
theorem Dv.int(D:Nat)(k:Int):Dv D k:=⟨k*D,by rw[Rat.intCast_mul,Rat.intCast_natCast]⟩
theorem fM(c:Rat):0<=bH c:=by unfold bH;split<;>grind
theorem A8(c d:Rat):bH (c+d)<=bH c+bH d:=by unfold bH;split<;>split<;>split<;>grind
theorem Hd(c:Rat):bH (-c)=bH c:=by unfold bH;split<;>split<;>grind
theorem yw(c:Rat):c<0\/0<=c:=gR
theorem qo{c:Rat}(h:c<0):bH c=-c:=by unfold bH;rw[if_pos h]
theorem bO{c:Rat}(h:0<=c):bH c=c:=by unfold bH;rw[if_neg gR]
theorem jH(c d:Rat):bH (c*d)=bH c*bH d:=by
 rcases yw c with hc|hc<;>rcases yw d with hd|hd
 ·have:=Rat.mul_pos (gR:0 < -c) (gR:0 < -d);have e:-c*-d=c*d:=gR;rw[e]at this;rw[qo hc,qo hd,bO (Rat.le_of_lt this),e]
 ·have:=Rat.mul_nonneg (gR:0<=-c) hd;have e:-c*d=-(c*d):=gR;rw[e]at this;rw[qo hc,bO hd,e,<-Hd,bO this]
 ·have:=Rat.mul_nonneg hc (gR:0<=-d);have e:c*-d=-(c*d):=gR;rw[e]at this;rw[bO hc,qo hd,e,<-Hd,bO this]
 ·rw[bO hc,bO hd,bO (Rat.mul_nonneg hc hd)]
theorem sZ(l r:List ai):bI (l++r)=bI l+bI r:=by
 induction l with
 | nil=>simp only[List.nil_append,bI];grind
 | cons t l b=>simp only[List.cons_append,bI,b];grind
theorem tq{l:List ai}{t:ai}(h:t∈l):bH t.2<=bI l:=by
 induction l with
 | nil=>cases h
 | cons s l b =>
  simp only[bI];rcases List.mem_cons.1 h with rfl|h
  ·have:=lW l;grind
  ·have:=b h;have:=fM s.2;grind
theorem FP{l:List ai}{g:ai->ai}{c:Rat}(h:∀t∈l,bH (g t).2<=bH t.2*c):bI (l.map g)<=bI l*c:=by
 induction l with
 | nil=>simp only[List.map_nil,bI];grind
 | cons t l b =>
  have:=h t sM;have:=b (λs d=>h s (by simp[d]));simp only[List.map_cons,bI];grind
theorem Bd.nil(s:Sz):Bd s []:=⟨Nat.zero_le _,(λt h=>absurd h sM),(λt h=>absurd h sM),by simp only[bI];exact Rat.natCast_nonneg⟩
theorem Bd.sub{s:Sz}{l r:List ai}(h:Bd s l)(i:r.Sublist l):Bd s r where
 n:=Nat.le_trans i.length_le h.n
 e:=λx j=>h.e x (i.subset j)
 d:=λx j=>h.d x (i.subset j)
 b:=by
  refine Rat.le_trans ?_ h.b;clear h
  induction i with
  | slnil=>exact Rat.le_refl
  | cons t _ k=>have:=fM t.2;simp only[bI];grind
  | cons_cons t _ k=>simp only[bI];grind
theorem J8(l:List ai)(m:ai):(ins l m).length<=l.length+1:=by
 induction l with
 | nil=>unfold ins;split<;>simp
 | cons t r b=>unfold ins;split<;>(try split)<;>(try split)<;>simp<;>omega
theorem A9(l:List ai)(m:ai):bI (ins l m)<=bI l+bH m.2:=by
 have:=fM m.2
 induction l with
 | nil=>unfold ins;split<;>simp only[bI]<;>grind
 | cons t r b =>
  have:=A8 m.2 t.2;have:=fM t.2;unfold ins;split<;>(try split)<;>(try split)<;>simp only[bI]<;>grind
theorem UZ{D:Nat}{l:List ai}{m:ai}(h:∀t∈l,Dv D t.2)(hm:Dv D m.2):∀t∈ins l m,Dv D t.2:=by
 induction l with
 | nil=>unfold ins;split<;>simp;exact hm
 | cons t r d =>
  unfold ins;split
  ·intro s b;rcases List.mem_cons.1 b with rfl|b
   ·exact h _ sM
   ·exact d (λs b=>h s (by simp[b])) s b
  ·split
   ·split
    ·intro s b;rcases List.mem_cons.1 b with rfl|b
     ·exact hm.add (h t sM)
     ·exact h s (by simp[b])
    ·intro s b;exact h s (by simp[b])
   ·split
    ·intro s b;rcases List.mem_cons.1 b with rfl|b
     ·exact hm
     ·exact h s b
    ·exact h
theorem PM{p:Ex->Prop}{l:List ai}{m:ai}(h:∀t∈l,p t.1)(hm:p m.1):∀t∈ins l m,p t.1:=λt b=>by
 rcases Mk b with e|b
 ·rw[e];exact hm
 ·exact h t b
theorem Ba{p:Ex->Prop}{D:Nat}:∀{l r:List ai},(∀t∈l,p t.1)->(∀t∈r,p t.1)->(∀t∈l,Dv D t.2)->(∀t∈r,Dv D t.2) ->
  (l.foldl ins r).length<=r.length+l.length/\bI (l.foldl ins r)<=bI r+bI l/\(∀t∈l.foldl ins r,p t.1)/\∀t∈l.foldl ins r,Dv D t.2
 | [],r,_,h2,_,h4=>⟨by simp,by simp only[List.foldl_nil,bI];grind,h2,h4⟩
 | m::l,r,h1,h2,h3,h4=>by
  have:=Ba (l:=l) (r:=ins r m) (λt b=>h1 t (by simp[b])) (PM h2 (h1 m sM)) (λt b=>h3 t (by simp[b])) (UZ h4 (h3 m sM));have e:=J8 r m;have d:=A9 r m;refine⟨?_,?_,this.2.2.1,this.2.2.2⟩
  ·simp only[List.foldl_cons,List.length_cons];omega
  ·have:=this.2.1;simp only[List.foldl_cons,bI];grind
theorem Bd.canon{s:Sz}{l:List ai}(h:Bd s l):Bd s (canon l):=by
 have:=Ba (l:=l) (r:=[]) (p:=λe=>-(s.E:Int)<=e.1/\e.1<=s.E/\-(s.E:Int)<=e.2.1/\e.2.1<=s.E/\-(s.E:Int)<=e.2.2.1/\e.2.2.1<=s.E/\-(s.E:Int)<=e.2.2.2/\e.2.2.2<=s.E) (D:=s.D)
  h.e (λ_ h=>by cases h) h.d (λ_ h=>by cases h)
 refine⟨Nat.le_trans (by simpa[Q.canon]using this.1) h.n,this.2.2.1,this.2.2.2,Rat.le_trans this.2.1 ?_⟩;have:=h.b;simp only[bI];grind
def mulT (s t:ai):ai:=(s.1.add t.1,s.2*t.2)
def prods (l r:List ai):List ai:=l.flatMap λs=>r.map (mulT s)
theorem yx(r:List ai):prods [] r=[]:=rfl
theorem jS(s:ai)(l r:List ai):prods (s::l) r=r.map (mulT s)++prods l r:=rfl
theorem dO.append{l r:List ai}(h:dO l)(d:dO r):dO (l++r):=λt b=>by
 rcases List.mem_append.1 b with b|b
 ·exact h t b
 ·exact d t b
theorem dO.mulT{s:ai}{r:List ai}(d:s.1.nat=true)(h:dO r):dO (r.map (mulT s)):=λt b=>by obtain⟨u,hu,rfl⟩:=List.mem_map.1 b;exact Ex.nat_add d (h u hu)
theorem dO.tail{s:ai}{l:List ai}(h:dO (s::l)):dO l:=λt b=>h t (by simp[b])
theorem dO.head{s:ai}{l:List ai}(h:dO (s::l)):s.1.nat=true:=h s sM
theorem dO.nil:dO []:=λ_ h=>by cases h
theorem dO.prods:∀{l r:List ai},dO l->dO r->dO (prods l r)
 | [],_,_,_=>dO.nil
 | _::_,_,h,h'=>(dO.mulT h.head h').append (dO.prods h.tail h')
theorem He{s:ai}{r:List ai}(x:Pt)(d:s.1.nat=true)(h:dO r):ev x (r.map (mulT s))=s.2*wP x s.1*ev x r:=by
 induction r with
 | nil=>simp only[List.map_nil,jf];grind
 | cons t r b=>rw[List.map_cons,kK,kK,b h.tail];simp only[mulT];rw[Ml x d h.head];grind
theorem Hf:∀{l r:List ai}(x:Pt),dO l->dO r->ev x (prods l r)=ev x l*ev x r
 | [],_,x,_,_=>by rw[yx,jf];grind
 | s::l,r,x,h,h'=>by rw[jS,oN,He x h.head h',Hf x h.tail h',kK];grind
theorem DX(s:ai)(r:List ai):bI (r.map (mulT s))=bH s.2*bI r:=by
 induction r with
 | nil=>simp only[List.map_nil,bI];grind
 | cons t r b=>simp only[List.map_cons,bI,b,mulT,jH];grind
theorem Bb(l r:List ai):bI (prods l r)=bI l*bI r:=by
 induction l with
 | nil=>simp only[yx,bI];grind
 | cons s l b=>rw[jS,sZ,b,DX];simp only[bI];grind
theorem wQ(l r:List ai):(prods l r).length=l.length*r.length:=by
 induction l with
 | nil=>simp[yx]
 | cons s l b=>rw[jS];simp[b,Nat.add_mul];omega
theorem mM{l r:List ai}{t:ai}(h:t∈prods l r):∃a∈l,∃b∈r,t=mulT a b:=by simp only[prods,List.mem_flatMap,List.mem_map]at h;obtain⟨a,ha,b,hb,e⟩:=h;exact⟨a,ha,b,hb,e.symm⟩
theorem qp{a b c d:Rat}(i:a<=b)(h:c<=d)(j:0<=a)(e:0<=d):a*c<=b*d:=by have k:a*c<=a*d:=Rat.mul_le_mul_of_nonneg_left h j;have l:a*d<=b*d:=Rat.mul_le_mul_of_nonneg_right i e;grind
theorem Bd.prods{s t:Sz}{l r:List ai}(h:Bd s l)(i:Bd t r):Bd (s.mul t) (prods l r) where
 n:=by rw[wQ];exact Nat.mul_le_mul h.n i.n
 e:=λx j=>by obtain⟨a,ha,b,hb,rfl⟩:=mM j;have:=h.e a ha;have:=i.e b hb;simp only[mulT,Ex.add,Sz.mul];omega
 d:=λx j=>by obtain⟨a,ha,b,hb,rfl⟩:=mM j;exact(h.d a ha).mul (i.d b hb)
 b:=by rw[Bb];simp only[Sz.mul];rw[Rat.natCast_mul];exact qp h.b i.b (lW _) (Rat.natCast_nonneg)
end Q
end
section
namespace Q
abbrev e0:Ex:=(0,0,0,0)
def bZ (c:Rat):List ai:=if c=0 then []else [(e0,c)]
def zJ (v:Nat):Ex:=Ex.put e0 v 1
def rz (v:Nat):List ai:=[(zJ v,1)]
def oZ (p q:List ai):List ai:=canon (p++q)
def bN (p:List ai) (c:Rat):List ai:=if c=0 then []else p.map λt=>(t.1,t.2*c)
def gH (p q:List ai):List ai:=oZ p (bN q (-1))
def aX (p q:List ai):List ai:=canon (prods p q)
def qJ (p:List ai):Nat->List ai
 | 0=>bZ 1
 | n+1=>aX (qJ p n) p
def aD (p:List ai) (v:Nat):Int:=p.foldl (λd t=>max d (t.1.get v)) (-1)
def aN (p:List ai) (v:Nat) (n:Int):List ai:=(p.filter λt=>t.1.get v=n).map λt=>(t.1.put v 0,t.2)
def aA (p:List ai) (v:Nat):List (List ai):=(List.range (aD p v+1).toNat).map λn:Nat=>aN p v n
def gJ (p:List ai) (v:Nat) (i:Int):List ai:=p.map λt=>(t.1.put v (t.1.get v+i),t.2)
def fromL (v:Nat):Int->List (List ai)->List ai
 | _,[]=>[]
 | i,p::l=>gJ p v i++fromL v (i+1) l
def tu (l:List (List ai)) (v:Nat):List ai:=canon (fromL v 0 l)
def dC (p:List ai) (v:Nat):List ai:=(p.filter λt=>0<t.1.get v).map λt=>(t.1.put v (t.1.get v-1),t.2*(t.1.get v:Rat))
def evalL (p:List ai) (v:Nat) (c:Rat):List ai:=p.map λt=>(t.1.put v 0,t.2*c^(t.1.get v).toNat)
def wR (p:List ai) (v:Nat) (c:Rat):List ai:=canon (evalL p v c)
def Yc (p:List ai) (v:Nat) (b:List ai):List ai:=(aA p v).foldr (λc out=>oZ (aX out b) c) []
theorem bR.const(c:Rat):bR (bZ c):=by
 unfold bZ;split
 ·exact bR.nil
 ·rename_i h;exact⟨List.pairwise_cons.2 ⟨λ_ h=>(by cases h),List.Pairwise.nil⟩,λt b=>by simp at b;subst b;exact⟨h,rfl⟩⟩
theorem Ob(v:Nat):(zJ v).nat=true:=by rcases v with _|_|_|v<;>rfl
theorem bR.var(v:Nat):bR (rz v) :=
 ⟨List.pairwise_cons.2 ⟨λ_ h=>(by cases h),List.Pairwise.nil⟩,λt b=>by simp[rz]at b;subst b;exact⟨(by decide:(1:Rat)≠0),Ob v⟩⟩
theorem bR.add(p q:List ai):bR (oZ p q):=fA _
theorem bR.mul(p q:List ai):bR (aX p q):=fA _
theorem bR.sub(p q:List ai):bR (gH p q):=fA _
theorem jr{a b:Rat}(ha:a≠0)(hb:b≠0):a*b≠0:=by
 intro h;rcases Rat.mul_eq_zero.1 h with h|h
 ·exact ha h
 ·exact hb h
theorem FM.map{l:List ai}{g:ai->ai}(h:FM l)(hg:∀s∈l,∀t∈l,s.1.gt t.1=true->(g s).1.gt (g t).1=true):FM (l.map g):=by unfold FM at *;rw[List.pairwise_map];exact h.imp_of_mem λd b=>hg _ d _ b
theorem bR.scale{p:List ai}(h:bR p)(c:Rat):bR (bN p c):=by
 unfold bN;split
 ·exact bR.nil
 ·rename_i hc;refine⟨h.1.map λ_ _ _ _ h=>h,λt d=>?_⟩;obtain⟨s,b,rfl⟩:=List.mem_map.1 d;exact⟨jr (h.2 s b).1 hc,(h.2 s b).2⟩
theorem bR.pow(p:List ai):∀n,bR (qJ p n)
 | 0=>bR.const _
 | _+1=>fA _
theorem Ex.put_nat{e:Ex}(h:e.nat=true)(v:Nat){x:Int}(b:0<=x):(e.put v x).nat=true:=by rw[Ex.nat_iff]at *;rcases v with _|_|_|v<;>simp only[Ex.put]<;>omega
theorem Ex.get_put(e:Ex)(v:Nat)(x:Int):(e.put v x).get v=x:=by rcases v with _|_|_|v<;>rfl
theorem Ex.put_get(e:Ex)(v:Nat):e.put v (e.get v)=e:=by rcases v with _|_|_|v<;>rfl
theorem Ex.put_put(e:Ex)(v:Nat)(x y:Int):(e.put v x).put v y=e.put v y:=by rcases v with _|_|_|v<;>rfl
theorem Ex.gt_put_same{e f:Ex}(v:Nat)(h:e.gt f=true)(hv:e.get v=f.get v)(x:Int):(e.put v x).gt (f.put v x)=true:=by rw[Ex.gt_iff]at *;obtain⟨a,b,c,d⟩:=e;obtain⟨a',i,c',d'⟩:=f;rcases v with _|_|_|v<;>simp only[Ex.put,Ex.get]at h hv ⊢<;>subst hv<;>simp only[Int.lt_irrefl,and_false,or_false,false_or,true_and]at h ⊢<;>omega
theorem FM.sub{l r:List ai}(h:FM l)(b:r.Sublist l):FM r:=List.Pairwise.sublist b h
theorem bR.sublist{l r:List ai}(h:bR l)(b:r.Sublist l):bR r:=⟨h.1.sub b,λt d=>h.2 t (b.subset d)⟩
theorem bR.coeff{p:List ai}(h:bR p)(v:Nat)(n:Int):bR (aN p v n):=by
 unfold aN;have e:=h.sublist (List.filter_sublist (l:=p) (p:=λt=>t.1.get v=n));refine⟨e.1.map λs b t d i=>Ex.gt_put_same v i ?_ 0,λt d=>?_⟩
 ·have k:=(List.mem_filter.1 b).2;have j:=(List.mem_filter.1 d).2;simp only[decide_eq_true_eq]at k j;rw[k,j]
 ·obtain⟨s,b,rfl⟩:=List.mem_map.1 d;exact⟨(e.2 s b).1,Ex.put_nat (e.2 s b).2 v (Int.le_refl _)⟩
theorem pE(x:Pt)(c:Rat):ev x (bZ c)=c:=by
 unfold bZ;split
 ·rename_i h;rw[jf,h]
 ·rw[kK,jf];simp[wP];grind
theorem PN(x:Pt)(v:Nat):ev x (rz v)=x.get v:=by
 rw[rz,kK,jf]
 have:wP x (zJ v)=x.get v:=by rcases v with _|_|_|v<;>simp[zJ,Ex.put,Pt.get,wP,Rat.pow_succ,Rat.pow_zero]
 rw[this];grind
theorem ev_add(x:Pt){p q:List ai}(h:dO p)(b:dO q):ev x (oZ p q)=ev x p+ev x q:=by rw[oZ,nE (h.append b),oN]
theorem ev_scale(x:Pt)(p:List ai)(c:Rat):ev x (bN p c)=ev x p*c:=by
 unfold bN;split
 ·rename_i h;rw[jf,h];grind
 ·unfold ev;rw[yn _ _ (λe=>c*wP x e) p (λt _=>gR),Ar];grind
theorem ev_sub(x:Pt){p q:List ai}(h:dO p)(b:bR q):ev x (gH p q)=ev x p-ev x q:=by rw[gH,ev_add x h (b.scale _).nat,ev_scale];grind
theorem ev_mul(x:Pt){p q:List ai}(h:dO p)(b:dO q):ev x (aX p q)=ev x p*ev x q:=by rw[aX,nE (h.prods b),Hf x h b]
theorem ev_pow(x:Pt){p:List ai}(h:dO p):∀n,ev x (qJ p n)=ev x p^n
 | 0=>by rw[qJ,pE,Rat.pow_zero]
 | n+1=>by rw[qJ,ev_mul x (bR.pow p n).nat h,ev_pow x h n,Rat.pow_succ]
theorem FQ(x:Pt)(e:Ex)(v:Nat)(c:Rat):wP (x.put v c) e=wP x (e.put v 0)*c^(e.get v).toNat:=by rcases v with _|_|_|v<;>simp only[Pt.put,Ex.put,Ex.get,wP,Int.toNat_zero,Rat.pow_zero]<;>grind
theorem Hg(x:Pt)(e:Ex)(v:Nat)(n:Int):wP x (e.put v n)=wP x (e.put v 0)*x.get v^n.toNat:=by rcases v with _|_|_|v<;>simp only[Pt.get,Ex.put,wP,Int.toNat_zero,Rat.pow_zero]<;>grind
theorem dO.evalL{p:List ai}(h:dO p)(v:Nat)(c:Rat):dO (evalL p v c):=λt b=>by obtain⟨s,d,rfl⟩:=List.mem_map.1 b;exact Ex.put_nat (h s d) v (Int.le_refl _)
theorem PO(x:Pt)(p:List ai)(v:Nat)(c:Rat):ev x (evalL p v c)=ev (x.put v c) p:=by unfold ev evalL;exact yn _ _ _ p λt _=>by rw[FQ];grind
theorem ev_eval(x:Pt){p:List ai}(h:dO p)(v:Nat)(c:Rat):ev x (wR p v c)=ev (x.put v c) p:=by rw[wR,nE (h.evalL v c),PO]
theorem fQ(f:ai->Int):∀(p:List ai)(d:Int),d<=p.foldl (λd t=>max d (f t)) d/\(∀t∈p,f t<=p.foldl (λd t=>max d (f t)) d)/\(p.foldl (λd t=>max d (f t)) d=d\/∃t∈p,f t=p.foldl (λd t=>max d (f t)) d)
 | [],d=>⟨Int.le_refl _,(λ_ h=>by cases h),Or.inl rfl⟩
 | t::p,d=>by
  obtain⟨j,i,b⟩:=fQ f p (max d (f t));refine⟨by simp only[List.foldl_cons];omega,λs e=>?_,?_⟩
  ·simp only[List.foldl_cons];rcases List.mem_cons.1 e with rfl|e
   ·omega
   ·exact i s e
  ·simp only[List.foldl_cons];rcases b with b|⟨s,e,b⟩
   ·rw[b];rcases Int.le_total d (f t)with h|h
    ·exact Or.inr ⟨t,sM,oM⟩
    ·exact Or.inl oM
   ·exact Or.inr ⟨s,by simp[e],b⟩
theorem rA(p:List ai)(v:Nat):-1<=aD p v:=(fQ (λt=>t.1.get v) p (-1)).1
theorem eU{p:List ai}{t:ai}(h:t∈p)(v:Nat):t.1.get v<=aD p v:=(fQ (λt=>t.1.get v) p (-1)).2.1 t h
theorem tC{p:List ai}(h:p≠[])(b:dO p)(v:Nat):∃t∈p,t.1.get v=aD p v:=by
 rcases(fQ (λt=>t.1.get v) p (-1)).2.2 with h1|h1
 ·exfalso
  cases p with
  | nil=>exact h rfl
  | cons t p =>
   have:=eU (p:=t::p) (t:=t) sM v;have:=Ex.nat_get (b t sM) v;unfold aD at *;omega
 ·exact h1
theorem dS(p:List ai)(v:Nat):(aA p v).length=(aD p v+1).toNat:=by simp[aA]
theorem fG(f:Ex->Rat)(p:List ai)(v:Nat)(n:Int):Lf f (aN p v n)=Lf (λe=>if e.get v=n then f (e.put v 0)else 0) p:=by
 unfold aN
 induction p with
 | nil=>rfl
 | cons t p b =>
  simp only[List.filter_cons];split
  ·rename_i h;simp only[decide_eq_true_eq]at h;simp only[List.map_cons,ry,b,if_pos h]
  ·rename_i h;simp only[decide_eq_true_eq]at h;simp only[ry,b,if_neg h];grind
def iI (f:Nat->Rat):Nat->Rat
 | 0=>0
 | n+1=>iI f n+f n
theorem lL{f g:Nat->Rat}:∀{n:Nat},(∀i,i<n->f i=g i)->iI f n=iI g n
 | 0,_=>rfl
 | n+1,h=>by rw[iI,iI,lL (n:=n) (λi b=>h i (by omega)),h n (by omega)]
theorem Bc(f g:Nat->Rat):∀n,iI (λi=>f i+g i) n=iI f n+iI g n
 | 0=>by simp only[iI];grind
 | n+1=>by simp only[iI,Bc f g n];grind
theorem Be{f:Nat->Rat}{k:Nat}:∀{n:Nat},k<n->(∀i,i<n->i≠k->f i=0)->iI f n=f k
 | 0,h,_=>by omega
 | n+1,h,h'=>by
  rw[iI];by_cases e:k=n
  ·subst e;have:iI f k=iI (λ_=>0) k:=lL λi d=>h' i oM oM
   have z:∀m,iI (λ_=>(0:Rat)) m=0:=by intro m;induction m with
    | zero=>rfl
    | succ m l=>simp only[iI,l];grind
   rw[this,z];grind
  ·rw[Be (n:=n) oM (λi d b=>h' i oM b),h' n oM (λj=>e j.symm)];grind
theorem Bf(x:Pt)(v:Nat)(c:Rat)(N:Nat):∀{p:List ai},dO p->(∀t∈p,t.1.get v<N)->ev (x.put v c) p=iI (λn=>ev x (aN p v n)*c^n) N
 | [],_,_=>by
  have:∀m,iI (λn=>ev x (aN [] v n)*c^n) m=0:=by
   intro m;induction m with
   | zero=>rfl
   | succ m b=>simp only[iI,b];show(0:Rat)+(0:Rat)*_=0;grind
  rw[this];rfl
 | t::p,h,hN=>by
  have l:=Ex.nat_get h.head v;have j:=hN t sM;rw[kK,Bf x v c N h.tail (λs d=>hN s (by simp[d])),FQ]
  have e:∀n:Nat,ev x (aN (t::p) v n)*c^n=(if t.1.get v=n then t.2*wP x (t.1.put v 0)else 0)*c^n+ev x (aN p v n)*c^n:=by intro n;unfold ev;rw[fG,fG,ry];split<;>grind
  rw[lL (λi _=>e i),Bc,Be (f:=λn:Nat=>(if t.1.get v=(n:Int)then t.2*wP x (t.1.put v 0)else 0)*c^n) (k:=(t.1.get v).toNat) oM (λi _ o=>by rw[if_neg oM];grind),if_pos oM];grind
theorem Mq{p:List ai}{v:Nat}:∀t∈p,t.1.get v<((aD p v+1).toNat:Int):=λt b=>by have:=eU b v;have:=rA p v;omega
def XR (b:List ai) (l:List (List ai)):List ai:=l.foldr (λc out=>oZ (aX out b) c) []
theorem eu{p c:List ai}{v:Nat}(h:c∈aA p v):∃n:Nat,c=aN p v n:=by obtain⟨n,_,e⟩:=List.mem_map.1 h;exact⟨n,e.symm⟩
theorem zK{p:List ai}{v n:Nat}(h:n<(aD p v+1).toNat):(aA p v).getD n []=aN p v n:=by simp[aA,List.getD_eq_getElem?_getD,h]
theorem PP(x:Pt){p:List ai}(h:dO p)(v i:Nat):ev x (gJ p v i)=ev x p*x.get v^i:=by
 unfold ev gJ
 rw[yn _ _ (λe=>x.get v^i*wP x e) p (λt b=>by
  have:=Ex.nat_get (h t b) v;rw[Hg x t.1 v (t.1.get v+i),Int.toNat_add this (Int.natCast_nonneg i),oW];have e:=Hg x t.1 v (t.1.get v);rw[Ex.put_get]at e;simp only[Int.toNat_natCast]
  rw[e];grind),Ar];grind
theorem dO.shift{p:List ai}(h:dO p)(v:Nat){i:Int}(e:0<=i):dO (gJ p v i):=λt d=>by obtain⟨s,b,rfl⟩:=List.mem_map.1 d;exact Ex.put_nat (h s b) v (by have:=Ex.nat_get (h s b) v;omega)
theorem dO.fromL(v:Nat):∀{l:List (List ai)}{i:Int},0<=i->(∀c∈l,dO c)->dO (fromL v i l)
 | [],_,_,_=>dO.nil
 | c::l,i,hi,h=>((h c (by simp)).shift v hi).append (dO.fromL v (by omega) (λc hc=>h c (by simp[hc])))
theorem Hl(x:Pt)(v:Nat):∀{l:List (List ai)}{i:Nat},(∀c∈l,dO c)->ev x (fromL v i l)=iI (λn=>ev x (l.getD n [])*x.get v^n) l.length*x.get v^i
 | [],i,_=>by simp only[fromL,jf,List.length_nil,iI];grind
 | c::l,i,h=>by
  have e:((i:Int)+1)=((i+1:Nat):Int):=oM;rw[fromL,oN,PP x (h c sM),e,Hl x v (λc hc=>h c (by simp[hc]))]
  have key:∀n:Nat,iI (λi=>ev x ((c::l).getD i [])*x.get v^i) (n+1)=iI (λi=>ev x (l.getD i [])*x.get v^i) n*x.get v+ev x c:=by
   intro n
   induction n with
   | zero=>simp only[iI,List.getD_cons_zero,Rat.pow_zero];grind
   | succ n b =>
    rw[iI,b];simp only[iI,List.getD_cons_succ,Rat.pow_succ];grind
  rw[List.length_cons,key,Rat.pow_succ];grind
theorem FR(x:Pt)(v:Nat){l:List (List ai)}(h:∀c∈l,dO c):ev x (tu l v)=iI (λn=>ev x (l.getD n [])*x.get v^n) l.length:=by have:=Hl x v (i:=0) h;rw[tu,nE (dO.fromL v (Int.le_refl _) h)];rw[show((0:Nat):Int)=0 from rfl]at this;rw[this,Rat.pow_zero];grind
theorem Pt.put_get(x:Pt)(v:Nat):x.put v (x.get v)=x:=by rcases v with _|_|_|v<;>rfl
theorem zL{p:List ai}(h:bR p)(v:Nat):tu (aA p v) v=p:=by
 refine Oa (dO.fromL v (Int.le_refl _) λc hc=>?_) h λx=>?_
 ·obtain⟨n,rfl⟩:=eu hc;exact(h.coeff v n).nat
 ·have:=FR x v (l:=aA p v) (λc hc=>by obtain⟨n,rfl⟩:=eu hc;exact(h.coeff v n).nat);rw[tu,nE (dO.fromL v (Int.le_refl _) λc hc=>by obtain⟨n,rfl⟩:=eu hc;exact(h.coeff v n).nat)]at this;rw[this];have e:=Bf x v (x.get v) _ h.nat Mq;rw[Pt.put_get]at e;rw[e,dS];exact lL λi b=>by rw[zK b]
end Q
end
section
namespace Q
theorem J9{l:List ai}(h:l.Pairwise (λs t=>s.1≠t.1)){t:ai}(b:t∈l):cf l t.1=t.2:=by
 induction l with
 | nil=>cases b
 | cons s l i =>
  obtain⟨d,e⟩:=List.pairwise_cons.1 h;rw[bJ];rcases List.mem_cons.1 b with rfl|b
  ·rw[if_pos rfl,nR (λu hu=>(d u hu).symm)];grind
  ·rw[if_neg (d t b),i e b];grind
theorem PQ{l:List ai}{e:Ex}(h:cf l e≠0):∃t∈l,t.1=e:=by apply Classical.byContradiction;intro d;exact h (nR λt b he=>d ⟨t,b,he⟩)
theorem SB{l r:List ai}(h:l.Perm r)(e:Ex):cf l e=cf r e:=by
 induction h with
 | nil=>rfl
 | cons x _ b=>rw[bJ,bJ,b]
 | swap x y l=>rw[bJ,bJ,bJ,bJ];grind
 | trans _ _ h1 h2=>rw[h1,h2]
theorem yz{l L d:List ai}(n:L.Pairwise (λs t=>s.1≠t.1))(k:∀t∈L,t.1.nat=true/\t.2=cf l t.1/\t.2≠0)(o:∀e:Ex,e.nat=true->cf l e≠0->(e,cf l e)∈L)
  (hp:L.Perm d) (p:d.Pairwise (λs t=>t.1.gt s.1=false)):d=canon l:=by
 have m:d.Pairwise (λs t=>s.1≠t.1):=(hp.pairwise_iff (λh=>Ne.symm h)).1 n
 have j:FM d:=by have:=List.pairwise_and_iff.2 ⟨p,m⟩;exact this.imp λ⟨a,b⟩=>Ex.gt_total a (λe=>b e.symm)
 have hv:bR d:=⟨j,λt i=>by have:=k t (hp.mem_iff.2 i);exact⟨this.2.2,this.1⟩⟩;refine hv.inj (fA l) λe=>?_;rw[nD,<-SB hp];by_cases hz:cf L e=0
 ·rw[hz];split
  ·rename_i q;apply Classical.byContradiction;intro hc;have:=J9 n (o e q (λh=>hc h.symm));rw[hz]at this;exact hc this
  ·rfl
 ·obtain⟨t,i,rfl⟩:=PQ hz;rw[J9 n i,if_pos (k t i).1,(k t i).2.1]
def dD:List ai->List ai->List ai
 | [],q=>q
 | p,[]=>p
 | s::p,t::q=>if s.1.gt t.1=true then s::dD p (t::q)else if t.1.gt s.1=true then t::dD (s::p) q else if s.2+t.2=0 then dD p q else(s.1,s.2+t.2)::dD p q
 termination_by p q=>p.length+q.length
theorem mergeP_nil(p:List ai):dD p []=p:=by cases p<;>simp[dD]
theorem nG(q:List ai):dD [] q=q:=by simp[dD]
theorem jv{e:Ex}:∀{p q:List ai},(∀t∈p,e.gt t.1=true)->(∀t∈q,e.gt t.1=true)->∀t∈dD p q,e.gt t.1=true
 | [],q,_,h=>by rw[nG];exact h
 | s::p,[],h,_=>by rw[mergeP_nil];exact h
 | s::p,t::q,h,h'=>by
  intro u hu;unfold dD at hu;have d:=h s sM;have b:=h' t sM;have hp:∀t∈p,e.gt t.1=true:=λt b=>h t (by simp[b]);have hq:∀t∈q,e.gt t.1=true:=λt b=>h' t (by simp[b]);split at hu
  ·rcases List.mem_cons.1 hu with rfl|hu
   ·exact d
   ·exact jv hp h' u hu
  ·split at hu
   ·rcases List.mem_cons.1 hu with rfl|hu
    ·exact b
    ·exact jv h hq u hu
   ·split at hu
    ·exact jv hp hq u hu
    ·rcases List.mem_cons.1 hu with rfl|hu
     ·exact d
     ·exact jv hp hq u hu
 termination_by p q=>p.length+q.length
theorem uG:∀{p q:List ai},bR p->bR q->bR (dD p q)/\∀e,cf (dD p q) e=cf p e+cf q e
 | [],q,_,h=>by rw[nG];exact⟨h,λe=>by rw[jq];grind⟩
 | s::p,[],h,_=>by rw[mergeP_nil];exact⟨h,λe=>by rw[jq];grind⟩
 | s::p,t::q,h,h'=>by
  have hp:=h.tail;have hq:=h'.tail;unfold dD;split
  ·rename_i hg;obtain⟨b,d⟩:=uG hp h';refine⟨⟨List.pairwise_cons.2 ⟨jv (h.1.head) (λu hu=>?_),b.1⟩,λu hu=>?_⟩,λe=>?_⟩
   ·rcases List.mem_cons.1 hu with rfl|hu
    ·exact hg
    ·exact Ex.gt_trans hg (h'.1.head u hu)
   ·rcases List.mem_cons.1 hu with rfl|hu
    ·exact h.2 _ sM
    ·exact b.2 u hu
   ·rw[bJ,d,bJ (l:=p)];grind
  ·split
   ·rename_i hg;obtain⟨b,d⟩:=uG h hq;refine⟨⟨List.pairwise_cons.2 ⟨jv (λu hu=>?_) (h'.1.head),b.1⟩,λu hu=>?_⟩,λe=>?_⟩
    ·rcases List.mem_cons.1 hu with rfl|hu
     ·exact hg
     ·exact Ex.gt_trans hg (h.1.head u hu)
    ·rcases List.mem_cons.1 hu with rfl|hu
     ·exact h'.2 _ sM
     ·exact b.2 u hu
    ·rw[bJ,d,bJ (l:=q)];grind
   ·rename_i j k
    have he:s.1=t.1:=by apply Classical.byContradiction;intro i;exact k (Ex.gt_total (by simpa using j) i)
    obtain⟨b,d⟩:=uG hp hq;split
    ·rename_i hz;refine⟨b,λe=>?_⟩;rw[d,bJ,bJ,he];grind
    ·rename_i hz;refine⟨⟨List.pairwise_cons.2 ⟨jv (h.1.head) (λu hu=>by rw[he];exact h'.1.head u hu),b.1⟩,λu hu=>?_⟩,λe=>?_⟩
     ·rcases List.mem_cons.1 hu with rfl|hu
      ·exact⟨hz,(h.2 s sM).2⟩
      ·exact b.2 u hu
     ·rw[bJ,d,bJ,bJ,he];grind
 termination_by p q=>p.length+q.length
theorem qK{p q:List ai}(hp:bR p)(hq:bR q):dD p q=oZ p q:=by
 obtain⟨i,h⟩:=uG hp hq;refine i.inj (fA _) λe=>?_;rw[h,oZ,nD,oL];split
 ·rfl
 ·rename_i d;rw[nR (l:=p) (λt b he=>d (by rw[<-he];exact(hp.2 t b).2)),nR (l:=q) (λt b he=>d (by rw[<-he];exact(hq.2 t b).2))];grind
end Q
end
section
namespace Q
theorem tF{e f g h:Ex}(d:e=f\/e.gt f=true)(b:g=h\/g.gt h=true)(i:¬(e=f/\g=h)):(e.add g).gt (f.add h)=true:=by
 rcases d with rfl|d
 ·rcases b with rfl|b
  ·exact absurd ⟨rfl,rfl⟩ i
  ·rw[Ex.gt_add];exact b
 ·rcases b with rfl|b
  ·rw[Ex.add_comm e,Ex.add_comm f,Ex.gt_add];exact d
  ·refine Ex.gt_trans (f:=e.add h) (by rw[Ex.gt_add];exact b) ?_;rw[Ex.add_comm e,Ex.add_comm f,Ex.gt_add];exact d
theorem FM.head_or{s:ai}{l:List ai}(h:FM (s::l)):∀u∈s::l,s.1=u.1\/s.1.gt u.1=true:=λu hu=>by
 rcases List.mem_cons.1 hu with rfl|hu
 ·exact .inl rfl
 ·exact .inr (h.head u hu)
theorem qC{s t:ai}{l r:List ai}(j:FM (s::l))(e:FM (t::r)):cf (prods (s::l) (t::r)) (s.1.add t.1)=s.2*t.2:=by
 rw[jS,oL,List.map_cons,bJ]
 have e1:cf (r.map (mulT s)) (s.1.add t.1)=0:=nR λu hu=>by obtain⟨i,d,rfl⟩:=List.mem_map.1 hu;exact(Ex.gt_ne (tF (.inl rfl) (.inr (e.head i d)) (λh=>Ex.gt_ne (e.head i d) h.2))).symm
 have k:cf (prods l (t::r)) (s.1.add t.1)=0:=nR λu hu=>by obtain⟨a,ha,b,hb,rfl⟩:=mM hu;exact(Ex.gt_ne (tF (.inr (j.head a ha)) (e.head_or b hb) (λh=>Ex.gt_ne (j.head a ha) h.1))).symm
 rw[e1,k];simp only[mulT,if_true];grind
theorem FT{p q:List ai}(hp:bR p)(hq:bR q)(d:p≠[])(b:q≠[]):aX p q≠[]:=by
 cases p with
 | nil=>exact absurd rfl d
 | cons s l=>cases q with
  | nil=>exact absurd rfl b
  | cons t r =>
   intro h;have hc:=nD (prods (s::l) (t::r)) (s.1.add t.1);rw[show canon (prods (s::l) (t::r))=[]from h,jq,if_pos (Ex.nat_add hp.nat.head hq.nat.head),qC hp.1 hq.1]at hc;exact jr (hp.2 s sM).1 (hq.2 t sM).1 hc.symm
theorem DY(q:List ai):aX [] q=[]:=rfl
theorem tH(p:List ai):aX p []=[]:=by
 have:prods p []=[]:=by induction p with
  | nil=>rfl
  | cons s l b=>rw[jS,b];rfl
 rw[aX,this];rfl
theorem FU{p q:List ai}(hp:bR p)(hq:bR q):aX p q=[]↔p=[]\/q=[]:=by
 constructor
 ·intro h;rcases Classical.em (p=[])with h1|h1
  ·exact .inl h1
  ·rcases Classical.em (q=[])with h2|h2
   ·exact .inr h2
   ·exact absurd h (FT hp hq h1 h2)
 ·rintro (rfl|rfl)
  ·exact DY _
  ·exact tH _
theorem tJ(f:Ex->Rat)(r:List ai):∀l:List ai,Lf f (prods l r)=Lf (λe=>Lf (λb=>f (e.add b)) r) l
 | []=>rfl
 | s::l=>by
  rw[jS,oK,tJ f r l,ry]
  congr 1
  rw[<-Ar];exact yn f (mulT s) (λb=>s.2*f (s.1.add b)) r λt _=>by simp only[mulT];grind
theorem Ex.get_add(e f:Ex)(v:Nat):(e.add f).get v=e.get v+f.get v:=by rcases v with _|_|_|v<;>rfl
theorem Ex.put_add(e f:Ex)(v:Nat):(e.add f).put v 0=(e.put v 0).add (f.put v 0):=by rcases v with _|_|_|v<;>simp[Ex.add,Ex.put]
theorem zM{p q:List ai}(v:Nat):Mi (aN (prods p q) v (aD p v+aD q v)) (prods (aN p v (aD p v)) (aN q v (aD q v))):=λf=>by
 rw[fG,tJ,tJ,fG];refine jG λs d=>?_;have i:=eU d v;split
 ·rename_i he;rw[fG];refine jG λt b=>?_;rw[Ex.get_add,Ex.put_add];by_cases h:t.1.get v=aD q v
  ·rw[if_pos h,if_pos oM]
  ·rw[if_neg h,if_neg oM]
 ·rename_i he;rw[jG (g:=λ_=>0) (λt b=>?_),Mj];have e:=eU b v;rw[Ex.get_add,if_neg oM]
theorem lm{P:Ex->Prop}{l:List ai}(h:∀t∈l,P t.1):∀t∈canon l,P t.1:=by
 have:∀(l r:List ai),(∀t∈l,P t.1)->(∀t∈r,P t.1)->∀t∈l.foldl ins r,P t.1:=by
  intro l
  induction l with
  | nil=>exact λr _ b=>b
  | cons m l i =>
   intro r e b;exact i _ (λt d=>e t (by simp[d])) (PM b (e m sM))
 exact this l [] h (λt d=>by cases d)
theorem bR.coeff_ne{p:List ai}(hp:bR p)(h:p≠[])(v:Nat):aN p v (aD p v)≠[]:=by obtain⟨t,b,e⟩:=tC h hp.nat v;intro hc;have:(t.1.put v 0,t.2)∈aN p v (aD p v):=List.mem_map.2 ⟨t,List.mem_filter.2 ⟨b,by simpa using e⟩,rfl⟩;rw[hc]at this;cases this
theorem PR{p q:List ai}(hp:bR p)(hq:bR q)(o:p≠[])(m:q≠[])(v:Nat):aD (aX p q) v=aD p v+aD q v:=by
 have j:=FT hp hq o m
 have kL:∀t∈aX p q,t.1.get v<=aD p v+aD q v:=lm (P:=λe=>e.get v<=aD p v+aD q v) λt d=>by obtain⟨a,ha,b,hb,rfl⟩:=mM d;have:=eU ha v;have:=eU hb v;simp only[mulT,Ex.get_add];omega
 obtain⟨t,d,e⟩:=tC j (bR.mul p q).nat v;have r:=kL t d
 have hc:aN (aX p q) v (aD p v+aD q v)≠[]:=by
  intro h
  have n:Mi (aN (aX p q) v (aD p v+aD q v)) (prods (aN p v (aD p v)) (aN q v (aD q v))):=λf=>by rw[fG,aX,(kJ (dO.prods hp.nat hq.nat)) _,<-fG];exact zM v f
  rw[h]at n;have s:=FT (hp.coeff v (aD p v)) (hq.coeff v (aD q v)) (hp.coeff_ne o v) (hq.coeff_ne m v);exact s (show canon _=[]from by rw[<-n.canon];rfl)
 obtain⟨c,k⟩:=List.exists_mem_of_ne_nil _ hc;obtain⟨u,hu,-⟩:=List.mem_map.1 k;obtain⟨i,l⟩:=List.mem_filter.1 hu;have x:=eU i v;have y:u.1.get v=aD p v+aD q v:=by simpa using l
 omega
end Q
end
section
namespace Q
theorem Au{e:Ex}{c:Rat}(he:e.nat=true)(hc:c≠0):bR [(e,c)] :=
 ⟨List.pairwise_singleton _ _,λt b=>by rw[List.mem_singleton.1 b];exact⟨hc,he⟩⟩
theorem Ex.get_put_ne(e:Ex){x y:Nat}(d:x<4)(b:y<4)(h:x≠y)(a:Int):(e.put x a).get y=e.get y:=by
 obtain rfl|rfl|rfl|rfl:x=0\/x=1\/x=2\/x=3:=oM
 all_goals (obtain rfl|rfl|rfl|rfl:y=0\/y=1\/y=2\/y=3:=oM)<;>first|rfl|exact absurd rfl h
theorem Ke(p:List ai)(v:Nat)(n:Int):aD (aN p v n) v<=0:=by
 rcases(fQ (λt=>t.1.get v) (aN p v n) (-1)).2.2 with h|⟨t,b,h⟩
 ·show(aN p v n).foldl _ _<=0;rw[h];omega
 ·show(aN p v n).foldl _ _<=0;rw[<-h];obtain⟨s,-,rfl⟩:=List.mem_map.1 b;simp only[Ex.get_put];omega
theorem Oc(p:List ai)(v:Nat)(c:Rat):aD (wR p v c) v<=0:=by
 have hz:∀t∈wR p v c,t.1.get v=0:=lm (P:=λe=>e.get v=0) λt b=>by obtain⟨s,-,rfl⟩:=List.mem_map.1 b;exact Ex.get_put _ _ _
 rcases(fQ (λt=>t.1.get v) (wR p v c) (-1)).2.2 with h|⟨t,b,h⟩
 ·show(wR p v c).foldl _ _<=0;rw[h];omega
 ·show(wR p v c).foldl _ _<=0;rw[<-h,hz t b];omega
theorem bR.eval(p:List ai)(v:Nat)(c:Rat):bR (wR p v c):=fA _
end Q
end
section
namespace Q
structure MP where
 l:List ai
 v:bR l
theorem MP.eq_of{p q:MP}(h:p.l=q.l):p=q:=by cases p;cases q;cases h;rfl
def MP.ev (x:Pt) (p:MP):Rat:=Q.ev x p.l
theorem MP.ext'{p q:MP}(h:∀x,p.ev x=q.ev x):p=q:=MP.eq_of (yt p.v q.v h)
def MP.c (r:Rat):MP:=⟨bZ r,bR.const r⟩
instance:Add MP:=⟨λp q=>⟨oZ p.l q.l,bR.add _ _⟩⟩
instance:Mul MP:=⟨λp q=>⟨aX p.l q.l,bR.mul _ _⟩⟩
instance:Neg MP:=⟨λp=>⟨bN p.l (-1),p.v.scale _⟩⟩
instance:Sub MP:=⟨λp q=>⟨gH p.l q.l,bR.sub _ _⟩⟩
instance:NatCast MP:=⟨λn=>MP.c n⟩
instance:IntCast MP:=⟨λn=>MP.c n⟩
instance (n:Nat):OfNat MP n:=⟨MP.c (n:Rat)⟩
instance:SMul Nat MP:=⟨λn p=>(n:MP)*p⟩
instance:SMul Int MP:=⟨λn p=>(n:MP)*p⟩
instance:HPow MP Nat MP:=⟨λp n=>⟨qJ p.l n,bR.pow _ _⟩⟩
theorem MP.ev_add(x:Pt)(p q:MP):(p+q).ev x=p.ev x+q.ev x:=Q.ev_add x p.v.nat q.v.nat
theorem MP.ev_mul(x:Pt)(p q:MP):(p*q).ev x=p.ev x*q.ev x:=Q.ev_mul x p.v.nat q.v.nat
theorem MP.ev_neg(x:Pt)(p:MP):(-p).ev x=- p.ev x:=by have:=Q.ev_scale x p.l (-1);show Q.ev x (bN p.l (-1))=- Q.ev x p.l;rw[this];grind
theorem MP.ev_sub(x:Pt)(p q:MP):(p-q).ev x=p.ev x-q.ev x:=Q.ev_sub x p.v.nat q.v
theorem MP.ev_c(x:Pt)(r:Rat):(MP.c r).ev x=r:=pE x r
theorem MP.ev_nat(x:Pt)(n:Nat):((n:Nat):MP).ev x=n:=pE x _
theorem MP.ev_int(x:Pt)(n:Int):((n:Int):MP).ev x=n:=pE x _
theorem MP.ev_ofNat(x:Pt)(n:Nat):(OfNat.ofNat n:MP).ev x=(n:Rat):=pE x _
theorem MP.ev_zero(x:Pt):(0:MP).ev x=0:=(pE x ((0:Nat):Rat)).trans rfl
theorem MP.ev_one(x:Pt):(1:MP).ev x=1:=(pE x ((1:Nat):Rat)).trans rfl
theorem MP.ev_pow(x:Pt)(p:MP)(n:Nat):(p^n).ev x=p.ev x^n:=Q.ev_pow x p.v.nat n
abbrev MP.cls{C:Type->Type}{α:Type}(_:C α):Type->Type:=C
instance:MP.cls Dyadic.instCommRing MP where
 add_zero a:=MP.ext' λx=>by rw[MP.ev_add,MP.ev_zero];grind
 add_comm a b:=MP.ext' λx=>by rw[MP.ev_add,MP.ev_add];grind
 add_assoc a b c:=MP.ext' λx=>by simp only[MP.ev_add];grind
 mul_assoc a b c:=MP.ext' λx=>by simp only[MP.ev_mul];grind
 mul_one a:=MP.ext' λx=>by rw[MP.ev_mul,MP.ev_one];grind
 one_mul a:=MP.ext' λx=>by rw[MP.ev_mul,MP.ev_one];grind
 left_distrib a b c:=MP.ext' λx=>by simp only[MP.ev_mul,MP.ev_add];grind
 right_distrib a b c:=MP.ext' λx=>by simp only[MP.ev_mul,MP.ev_add];grind
 zero_mul a:=MP.ext' λx=>by rw[MP.ev_mul,MP.ev_zero];grind
 mul_zero a:=MP.ext' λx=>by rw[MP.ev_mul,MP.ev_zero];grind
 pow_zero a:=MP.ext' λx=>by rw[MP.ev_pow,MP.ev_one,Rat.pow_zero]
 pow_succ a n:=MP.ext' λx=>by rw[MP.ev_pow,MP.ev_mul,MP.ev_pow,Rat.pow_succ]
 ofNat_succ a:=MP.ext' λx=>by have h:=MP.ev_ofNat x (a+1);have h2:=MP.ev_ofNat x a;rw[MP.ev_add,MP.ev_one,h,h2,Rat.natCast_add];rfl
 ofNat_eq_natCast n:=rfl
 nsmul_eq_natCast_mul n a:=rfl
 neg_add_cancel a:=MP.ext' λx=>by rw[MP.ev_add,MP.ev_neg,MP.ev_zero];grind
 sub_eq_add_neg a b:=MP.ext' λx=>by rw[MP.ev_add,MP.ev_neg,MP.ev_sub];grind
 neg_zsmul i a:=MP.ext' λx=>by show MP.ev x (((-i:Int):MP)*a)=MP.ev x (-((i:MP)*a));rw[MP.ev_mul,MP.ev_neg,MP.ev_mul,MP.ev_int,MP.ev_int,Rat.intCast_neg];grind
 zsmul_natCast_eq_nsmul n a:=MP.ext' λx=>by show MP.ev x (((n:Int):MP)*a)=MP.ev x ((n:MP)*a);rw[MP.ev_mul,MP.ev_mul,MP.ev_int,MP.ev_nat,Rat.intCast_natCast]
 intCast_ofNat n:=MP.ext' λx=>by have h:=MP.ev_ofNat x n;rw[h];exact(MP.ev_int x _).trans (Rat.intCast_natCast n)
 intCast_neg i:=MP.ext' λx=>by rw[MP.ev_int,MP.ev_neg,MP.ev_int,Rat.intCast_neg]
 mul_comm a b:=MP.ext' λx=>by rw[MP.ev_mul,MP.ev_mul];grind
theorem MP.zero_iff{p:MP}:p=0↔p.l=[]:=⟨λh=>by rw[h];rfl,λh=>MP.eq_of (by rw[h];rfl)⟩
theorem MP.mul_eq_zero{p q:MP}:p*q=0↔p=0\/q=0:=by rw[MP.zero_iff,MP.zero_iff,MP.zero_iff];exact FU p.v q.v
theorem MP.mul_ne{p q:MP}(hp:p≠0)(hq:q≠0):p*q≠0:=λh=>(MP.mul_eq_zero.1 h).elim hp hq
theorem MP.cancel{p q r:MP}(hp:p≠0)(h:p*q=p*r):q=r:=by
 have:p*(q - r)=0:=gR;rcases MP.mul_eq_zero.1 this with h|h
 ·exact absurd h hp
 ·grind
theorem MP.one_ne:(1:MP)≠0:=λh=>by have:=MP.zero_iff.1 h;cases this
def MP.deg (v:Nat) (p:MP):Int:=aD p.l v
def MP.co (v n:Nat) (p:MP):MP:=⟨aN p.l v n,p.v.coeff v n⟩
def MP.fr (v:Nat) (p:MP):Prop:=p.deg v<=0
theorem MP.deg_mul{p q:MP}(hp:p≠0)(hq:q≠0)(v:Nat):(p*q).deg v=p.deg v+q.deg v :=
 PR p.v q.v (λh=>hp (MP.zero_iff.2 h)) (λh=>hq (MP.zero_iff.2 h)) v
theorem MP.deg_ge(v:Nat)(p:MP):-1<=p.deg v:=rA _ _
theorem MP.deg_pos{p:MP}(hp:p≠0)(v:Nat):0<=p.deg v:=by obtain⟨t,b,e⟩:=tC (λh=>hp (MP.zero_iff.2 h)) p.v.nat v;show 0<=aD p.l v;rw[<-e];exact Ex.nat_get (p.v.nat t b) v
theorem MP.deg_zero(v:Nat):(0:MP).deg v=-1:=rfl
theorem MP.fr_get{p:MP}{v:Nat}(h:p.fr v){t:ai}(b:t∈p.l):t.1.get v=0:=by have e:=eU b v;have d:=Ex.nat_get (p.v.nat t b) v;have i:aD p.l v<=0:=h;omega
theorem Uu{p:MP}{v:Nat}(h:∀t∈p.l,t.1.get v=0):p.fr v:=by
 rcases(fQ (λt=>t.1.get v) p.l (-1)).2.2 with e|⟨t,b,e⟩
 ·show aD p.l v<=0;unfold aD;rw[e];omega
 ·show aD p.l v<=0;unfold aD;rw[<-e,h t b];omega
theorem MP.co_fr(v n:Nat)(p:MP):(p.co v n).fr v:=Ke _ _ _
theorem Od{p q:MP}(h:Mi p.l q.l):p=q:=MP.eq_of (p.v.eqv_inj q.v h)
theorem MP.lf_add(f:Ex->Rat)(p q:MP):Lf f (p+q).l=Lf f p.l+Lf f q.l:=by have:=kJ (p.v.nat.append q.v.nat) f;show Lf f (canon (p.l++q.l))=_;rw[this,oK]
theorem MP.lf_mul(f:Ex->Rat)(p q:MP):Lf f (p*q).l=Lf (λe=>Lf (λb=>f (e.add b)) q.l) p.l:=by have:=kJ (p.v.nat.prods q.v.nat) f;show Lf f (canon (prods p.l q.l))=_;rw[this,tJ]
theorem MP.lf_neg(f:Ex->Rat)(p:MP):Lf f (-p).l=- Lf f p.l:=by have h:p+-p=0:=gR;have:=MP.lf_add f p (-p);rw[h]at this;have e:Lf f (0:MP).l=0:=rfl;rw[e]at this;grind
theorem MP.co_add(v n:Nat)(p q:MP):(p+q).co v n=p.co v n+q.co v n:=Od λf=>by rw[MP.lf_add];show Lf f (aN _ v n)=Lf f (aN _ v n)+Lf f (aN _ v n);rw[fG,fG,fG,MP.lf_add]
theorem MP.co_neg(v n:Nat)(p:MP):(-p).co v n=- p.co v n:=Od λf=>by rw[MP.lf_neg];show Lf f (aN _ v n)=- Lf f (aN _ v n);rw[fG,fG,MP.lf_neg]
theorem MP.co_sub(v n:Nat)(p q:MP):(p-q).co v n=p.co v n-q.co v n:=by have h:p-q=p+-q:=gR;rw[h,MP.co_add,MP.co_neg];grind
theorem MP.co_mul_fr{d:MP}{v:Nat}(hd:d.fr v)(n:Nat)(p:MP):(d*p).co v n=d*p.co v n:=Od λf=>by rw[MP.lf_mul];show Lf f (aN _ v n)=_;rw[fG,MP.lf_mul];refine jG λt b=>?_;show _=Lf _ (aN _ v n);rw[fG];refine jG λs _=>?_;have e:=MP.fr_get hd b;rw[Ex.get_add,e,Ex.put_add,show t.1.put v 0=t.1 by rw[<-e,Ex.put_get],Int.zero_add]
def MP.xk (v k:Nat):MP:=⟨[(e0.put v k,1)],Au (Ex.put_nat rfl v (by omega)) (by decide)⟩
theorem Bh(v:Nat):Ex.get e0 v=0:=by rcases v with _|_|_|v<;>rfl
theorem MP.xk_ne(v k:Nat):MP.xk v k≠0:=λh=>by have:=MP.zero_iff.1 h;cases this
theorem Ex.add_put0(e:Ex)(v:Nat)(k:Int):((e0.put v k).add e)=e.put v (e.get v+k):=by rcases v with _|_|_|v<;>simp[Ex.add,Ex.put,Ex.get,Int.add_comm]
theorem MP.co_xk(v k n:Nat)(p:MP):(MP.xk v k*p).co v n=if k<=n then p.co v (n-k)else 0:=Od λf=>by
 show Lf f (aN _ v n)=_;rw[fG,MP.lf_mul];show Lf _ [((e0.put v k),(1:Rat))]=_;rw[ry,J7];split
 ·rename_i h;show _=Lf f (aN _ v _);rw[fG]
  have:Lf (λb=>if((e0.put v ↑k).add b).get v=(n:Int)then f (((e0.put v ↑k).add b).put v 0)else 0) p.l=Lf (λe=>if e.get v=((n-k:Nat):Int)then f (e.put v 0)else 0) p.l:=jG λt _=>by
   rw[Ex.add_put0,Ex.get_put,Ex.put_put];by_cases hc:t.1.get v=((n-k:Nat):Int)
   ·rw[if_pos hc,if_pos oM]
   ·rw[if_neg hc,if_neg oM]
  rw[this];grind
 ·rename_i h
  have:Lf (λb=>if((e0.put v ↑k).add b).get v=(n:Int)then f (((e0.put v ↑k).add b).put v 0)else 0) p.l=Lf (λ_=>0) p.l:=jG λt d=>by rw[Ex.add_put0,Ex.get_put];have:=Ex.nat_get (p.v.nat t d) v;rw[if_neg oM]
  rw[this,Mj];show _=(0:Rat);grind
theorem MP.deg_xk(v k:Nat):(MP.xk v k).deg v=k:=by show max (-1) ((e0.put v k).get v)=k;rw[Ex.get_put];omega
theorem MP.co_above{p:MP}{v n:Nat}(h:p.deg v<n):p.co v n=0:=by rw[MP.zero_iff];show(p.l.filter λt=>t.1.get v=(n:Int)).map _=[];rw[List.map_eq_nil_iff,List.filter_eq_nil_iff];intro t b;have:=eU b v;have d:aD p.l v<n:=h;simp;omega
theorem MP.deg_le_of{p:MP}{v:Nat}{k:Int}(j:-1<=k)(h:∀n:Nat,k<n->p.co v n=0):p.deg v<=k:=by
 rcases Int.lt_or_le k (p.deg v)with hlt|kL
 ·exfalso
  have b:p.l≠[]:=λe=>by
   have:p.deg v=-1:=by show aD p.l v=-1;rw[e];rfl
   omega
  obtain⟨t,d,e⟩:=tC b p.v.nat v;have i:=Ex.nat_get (p.v.nat t d) v;have hz:=h (t.1.get v).toNat (by rw[e];show k<((aD p.l v).toNat:Int);rw[Int.toNat_of_nonneg (by rw[<-e];exact i)];exact hlt);rw[MP.zero_iff]at hz;have hz:(p.l.filter λu=>u.1.get v=((t.1.get v).toNat:Int)).map _=[]:=hz;rw[List.map_eq_nil_iff,List.filter_eq_nil_iff]at hz;exact hz t d (by simp;omega)
 ·exact kL
def MP.lc (v:Nat) (p:MP):MP:=p.co v (p.deg v).toNat
theorem MP.lc_fr(v:Nat)(p:MP):(p.lc v).fr v:=MP.co_fr _ _ _
theorem MP.lc_ne{p:MP}(hp:p≠0)(v:Nat):p.lc v≠0:=λh=>by rw[MP.zero_iff]at h;have b:=p.v.coeff_ne (λe=>hp (MP.zero_iff.2 e)) v;have d:0<=aD p.l v:=MP.deg_pos hp v;apply b;have:aN p.l v ((aD p.l v).toNat:Int)=[]:=h;rwa[Int.toNat_of_nonneg d]at this
def cK (f:Nat->MP):Nat->MP
 | 0=>0
 | n+1=>cK f n+f n
theorem FV(x:Pt)(f:Nat->MP):∀n,(cK f n).ev x=iI (λi=>(f i).ev x) n
 | 0=>MP.ev_zero x
 | n+1=>by rw[cK,MP.ev_add,FV x f n];rfl
theorem MP.ev_xk(x:Pt)(v k:Nat):(MP.xk v k).ev x=x.get v^k:=by
 show(1:Rat)*wP x (e0.put v k)+0=_
 have:wP x (e0.put v k)=x.get v^k:=by rcases v with _|_|_|v<;>simp[wP,Ex.put,Pt.get,Rat.pow_zero,Rat.one_mul,Rat.mul_one]
 rw[this];grind
theorem MP.split(v:Nat)(p:MP){N:Nat}(h:p.deg v<N):p=cK (λn=>p.co v n*MP.xk v n) N:=MP.ext' λx=>by rw[FV];have:=Bf x v (x.get v) N p.v.nat (λt b=>by have:=eU b v;have d:aD p.l v<N:=h;omega);rw[Pt.put_get]at this;show Q.ev x p.l=_;rw[this];refine lL λi _=>?_;rw[MP.ev_mul,MP.ev_xk];rfl
instance:Dvd MP:=⟨λa b=>∃c,b=a*c⟩
theorem MP.dvd_refl(a:MP):a∣a:=⟨1,gR⟩
theorem MP.dvd_trans{a b c:MP}(h:a∣b)(d:b∣c):a∣c:=by obtain⟨x,rfl⟩:=h;obtain⟨y,rfl⟩:=d;exact⟨x*y,gR⟩
theorem MP.dvd_mul_right(a b:MP):a∣a*b:=⟨b,rfl⟩
theorem MP.dvd_mul_left(a b:MP):a∣b*a:=⟨b,gR⟩
theorem MP.dvd_zero(a:MP):a∣0:=⟨0,gR⟩
theorem MP.zero_dvd{a:MP}(h:(0:MP)∣a):a=0:=by obtain⟨x,rfl⟩:=h;grind
theorem MP.dvd_add{a b c:MP}(h:a∣b)(d:a∣c):a∣b+c:=by obtain⟨x,rfl⟩:=h;obtain⟨y,rfl⟩:=d;exact⟨x+y,gR⟩
theorem MP.dvd_sub{a b c:MP}(h:a∣b)(d:a∣c):a∣b-c:=by obtain⟨x,rfl⟩:=h;obtain⟨y,rfl⟩:=d;exact⟨x - y,gR⟩
theorem MP.dvd_mul_of{a b:MP}(h:a∣b)(c:MP):a∣b*c:=by obtain⟨x,rfl⟩:=h;exact⟨x*c,gR⟩
theorem MP.dvd_mul_of'{a b:MP}(h:a∣b)(c:MP):a∣c*b:=by obtain⟨x,rfl⟩:=h;exact⟨c*x,gR⟩
theorem MP.mul_dvd{a b c d:MP}(h:a∣b)(e:c∣d):a*c∣b*d:=by obtain⟨x,rfl⟩:=h;obtain⟨y,rfl⟩:=e;exact⟨x*y,gR⟩
theorem MP.dvd_cancel{a b c:MP}(ha:a≠0)(h:a*b∣a*c):b∣c:=by obtain⟨x,e⟩:=h;exact⟨x,MP.cancel ha (by rw[e];grind)⟩
theorem MP.dvd_ne{a b:MP}(hb:b≠0)(h:a∣b):a≠0:=λe=>hb (MP.zero_dvd (e▸h))
theorem MP.dvd_deg{a b:MP}(hb:b≠0)(h:a∣b)(v:Nat):a.deg v<=b.deg v:=by obtain⟨x,rfl⟩:=h;have ha:a≠0:=λe=>hb (by rw[e];grind);have d:x≠0:=λe=>hb (by rw[e];grind);have:=MP.deg_pos d v;rw[MP.deg_mul ha d];omega
theorem MP.dvd_msum{a:MP}{f:Nat->MP}:∀{n:Nat},(∀i,i<n->a∣f i)->a∣cK f n
 | 0,_=>MP.dvd_zero a
 | n+1,h=>MP.dvd_add (MP.dvd_msum λi b=>h i (by omega)) (h n (by omega))
theorem MP.dvd_iff_co{d:MP}{v:Nat}(hd:d.fr v)(p:MP):d∣p↔∀n,d∣p.co v n:=by
 constructor
 ·rintro⟨q,rfl⟩ n;rw[MP.co_mul_fr hd];exact MP.dvd_mul_right _ _
 ·intro h;rw[MP.split v p (N:=(p.deg v).toNat+1) (by have:=MP.deg_ge v p;omega)];exact MP.dvd_msum λi _=>MP.dvd_mul_of (h i) _
def MP.unit (a:MP):Prop:=a∣1
theorem MP.unit_dvd{a:MP}(h:a.unit)(b:MP):a∣b:=by obtain⟨x,e⟩:=h;exact⟨x*b,gR⟩
theorem MP.unit_of_dvd{a b:MP}(h:a∣b)(hb:b.unit):a.unit:=MP.dvd_trans h hb
theorem MP.unit_one:(1:MP).unit:=MP.dvd_refl 1
theorem MP.unit_cancel{a u:MP}(ha:a≠0)(h:a*u∣a):u.unit:=by refine MP.dvd_cancel ha (c:=1) ?_;have e:a*1=a:=gR;rw[e];exact h
end Q
end
