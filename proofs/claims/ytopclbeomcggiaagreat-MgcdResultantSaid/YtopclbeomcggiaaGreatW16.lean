/- Polynomials as lists of terms: validity, coefficients, the polynomial of a list. No program in sight. -/
set_option linter.unusedVariables false
set_option linter.unusedSimpArgs false
set_option maxHeartbeats 16000000
set_option maxRecDepth 100000
section
namespace Q
abbrev Ex:=Int × Int × Int × Int
def Ex.get (e:Ex) (v:Nat):Int:=match v with|0=>e.1|1=>e.2.1|2=>e.2.2.1|_=>e.2.2.2
def Ex.put (e:Ex) (v:Nat) (x:Int):Ex:=match v with|0=>(x,e.2.1,e.2.2.1,e.2.2.2)|1=>(e.1,x,e.2.2.1,e.2.2.2)|2=>(e.1,e.2.1,x,e.2.2.2)|_=>(e.1,e.2.1,e.2.2.1,x)
def Ex.add (e f:Ex):Ex:=(e.1+f.1,e.2.1+f.2.1,e.2.2.1+f.2.2.1,e.2.2.2+f.2.2.2)
def Ex.sub (e f:Ex):Ex:=(e.1-f.1,e.2.1-f.2.1,e.2.2.1-f.2.2.1,e.2.2.2-f.2.2.2)
def Ex.nat (e:Ex):Bool:=decide (0<=e.1/\0<=e.2.1/\0<=e.2.2.1/\0<=e.2.2.2)
def Ex.gt (e f:Ex):Bool:=decide (f.2.2.2<e.2.2.2\/f.2.2.2=e.2.2.2/\(f.2.2.1<e.2.2.1\/f.2.2.1=e.2.2.1/\(f.2.1<e.2.1\/f.2.1=e.2.1/\f.1<e.1)))
theorem Ex.nat_iff {e:Ex}:e.nat=true↔0<=e.1/\0<=e.2.1/\0<=e.2.2.1/\0<=e.2.2.2:=decide_eq_true_iff
theorem Ex.gt_iff {e f:Ex}:e.gt f=true↔(f.2.2.2<e.2.2.2\/f.2.2.2=e.2.2.2/\(f.2.2.1<e.2.2.1\/f.2.2.1=e.2.2.1/\(f.2.1<e.2.1\/f.2.1=e.2.1/\f.1<e.1))):=decide_eq_true_iff
theorem Ex.ext' {e f:Ex} (h1:e.1=f.1) (h2:e.2.1=f.2.1) (h3:e.2.2.1=f.2.2.1) (h4:e.2.2.2=f.2.2.2):e=f:=by
 obtain⟨a,b,c,d⟩:=e;obtain⟨a',b',c',d'⟩:=f;simp_all
theorem Ex.gt_irrefl (e:Ex):e.gt e=false:=by simp [Ex.gt]
theorem Ex.gt_trans {e f g:Ex} (h1:e.gt f=true) (h2:f.gt g=true):e.gt g=true:=by
 simp only [Ex.gt,decide_eq_true_eq] at *;omega
theorem Ex.gt_ne {e f:Ex} (h:e.gt f=true):e≠f:=by rintro rfl;rw [Ex.gt_irrefl] at h;cases h
theorem Ex.gt_asymm {e f:Ex} (h:e.gt f=true):f.gt e=false:=by
 cases hf:f.gt e
 ·rfl
 ·have:=Ex.gt_trans h hf;rw [Ex.gt_irrefl] at this;cases this
theorem Ex.gt_total {e f:Ex} (h:e.gt f=false) (hne:e≠f):f.gt e=true:=by
 obtain⟨a,b,c,d⟩:=e;obtain⟨a',b',c',d'⟩:=f;simp only [Ex.gt,decide_eq_true_eq,decide_eq_false_iff_not] at *;simp only [ne_eq,Prod.mk.injEq] at hne;omega
theorem Ex.add_comm (e f:Ex):e.add f=f.add e:=by simp only [Ex.add];refine Ex.ext' ?_ ?_ ?_ ?_ <;> simp only <;> omega
theorem Ex.zero_add (e:Ex):Ex.add (0,0,0,0) e=e:=by simp [Ex.add]
theorem Ex.gt_add {e f:Ex} (g:Ex):(g.add e).gt (g.add f)=e.gt f:=by
 rw [Bool.eq_iff_iff,Ex.gt_iff,Ex.gt_iff];simp only [Ex.add];omega
theorem Ex.nat_add {e f:Ex} (h:e.nat=true) (h':f.nat=true):(e.add f).nat=true:=by
 rw [Ex.nat_iff] at *;simp only [Ex.add];omega
theorem Ex.nat_get {e:Ex} (h:e.nat=true) (v:Nat):0<=e.get v:=by
 simp only [Ex.nat,decide_eq_true_eq] at h;unfold Ex.get;split <;> omega
abbrev ai:=Ex × Rat
def EP (l:List ai):Prop:=l.Pairwise (fun s t=>s.1.gt t.1=true)
def aV (l:List ai):Prop:=EP l/\∀ t∈l,t.2≠0/\t.1.nat=true
def Lf (f:Ex->Rat):List ai->Rat
 | []=>0
 | t::l=>t.2*f t.1+Lf f l
def cf (l:List ai) (e:Ex):Rat:=Lf (fun x=>if x=e then 1 else 0) l
def Ld (l r:List ai):Prop:=∀ f,Lf f l=Lf f r
theorem Ld.refl (l:List ai):Ld l l:=fun _=>rfl
theorem JA (f:Ex->Rat):Lf f []=0:=rfl
theorem nG (f:Ex->Rat) (t:ai) (l:List ai):Lf f (t::l)=t.2*f t.1+Lf f l:=rfl
theorem nU (f:Ex->Rat) (l r:List ai):Lf f (l++r)=Lf f l+Lf f r:=by
 induction l with
 | nil=>simp only [List.nil_append,Lf];grind
 | cons t l ih=>simp only [List.cons_append,Lf,ih];grind
theorem jc (f:Ex->Rat) (c:Rat) (l:List ai):Lf (fun e=>c*f e) l=c*Lf f l:=by
 induction l with
 | nil=>simp [Lf]
 | cons t l ih=>simp only [Lf,ih];grind
theorem JB (f g:Ex->Rat) (l:List ai):Lf (fun e=>f e+g e) l=Lf f l+Lf g l:=by
 induction l with
 | nil=>simp only [Lf];grind
 | cons t l ih=>simp only [Lf,ih];grind
theorem Le (l:List ai):Lf (fun _=>0) l=0:=by
 induction l with
 | nil=>rfl
 | cons t l ih=>simp only [Lf,ih];grind
theorem gK {f g:Ex->Rat} {l:List ai} (h:∀ t∈l,f t.1=g t.1):Lf f l=Lf g l:=by
 induction l with
 | nil=>rfl
 | cons t l ih=>simp only [Lf,h t (by simp),ih (fun s hs=>h s (by simp [hs]))]
theorem xE (f:Ex->Rat) (g:ai->ai) (k:Ex->Rat) (l:List ai) (h:∀ t∈l,(g t).2*f (g t).1=t.2*k t.1):Lf f (l.map g)=Lf k l:=by
 induction l with
 | nil=>rfl
 | cons t l ih=>simp only [List.map_cons,Lf,h t (by simp),ih (fun s hs=>h s (by simp [hs]))]
theorem Np (f:Ex->Rat) (e:Ex) (l:List ai):Lf f l=cf l e*f e+Lf f (l.filter (fun t=>t.1 != e)):=by
 induction l with
 | nil=>simp only [Lf,cf,List.filter_nil];grind
 | cons t l ih =>
  unfold cf at *;by_cases h:t.1=e
  ·subst h;simp [Lf,ih];grind
  ·have h1:(t.1 != e)=true:=bne_iff_ne.2 h;simp [Lf,h,ih,h1];grind
theorem Nq (e e':Ex) (l:List ai):cf (l.filter (fun t=>t.1 != e)) e'=if e'=e then 0 else cf l e':=by
 induction l with
 | nil=>simp [cf,Lf]
 | cons t l ih =>
  unfold cf at *;by_cases h:t.1=e
  ·subst h;simp only [List.filter_cons,bne_self_eq_false,Bool.false_eq_true,if_false,ih,Lf];split
   ·rfl
   ·rename_i h;rw [if_neg (Ne.symm h)];grind
  ·have h1:(t.1 != e)=true:=bne_iff_ne.2 h;simp only [List.filter_cons,h1,if_true,Lf,ih];split
   ·subst e';rw [if_neg h];grind
   ·grind
theorem Av:∀ (n:Nat) (l:List ai),l.length<=n->(∀ e,cf l e=0)->∀ f,Lf f l=0
 | _,[],_,_,_=>rfl
 | 0,_::_,h,_,_=>by simp at h
 | n+1,t::l,hl,h,f=>by
  rw [Np f t.1,h,Av n _ ?_ ?_]
  ·grind
  ·have:((t::l).filter (fun s=>s.1 != t.1)).length<=l.length:=by
    simp only [List.filter_cons,bne_self_eq_false,Bool.false_eq_true,if_false];exact List.length_filter_le _ _
   simp at hl;omega
  ·intro e;rw [Nq];split
   ·rfl
   ·exact h e
theorem nV (l r:List ai) (e:Ex):cf (l++r) e=cf l e+cf r e:=nU _ _ _
def EQ (l:List ai):List ai:=l.map (fun t=>(t.1,-t.2))
theorem ER (f:Ex->Rat) (l:List ai):Lf f (EQ l)=- Lf f l:=by
 induction l with
 | nil=>simp [Lf,EQ]
 | cons t l ih=>simp only [EQ,List.map_cons,Lf] at *;grind
theorem Nr {l r:List ai} (h:∀ e,cf l e=cf r e):Ld l r:=fun f=>by
 have:=Av _ (l++EQ r) (Nat.le_refl _) (fun e=>by rw [nV];have:=h e;unfold cf at *;rw [ER];grind) f;rw [nU,ER] at this;grind
theorem Ld.cf {l r:List ai} (h:Ld l r) (e:Ex):cf l e=cf r e:=h _
theorem jd (e:Ex):cf [] e=0:=rfl
theorem bG (t:ai) (l:List ai) (e:Ex):cf (t::l) e=(if t.1=e then t.2 else 0)+cf l e:=by
 simp only [cf,Lf];split <;> grind
theorem mZ {l:List ai} {e:Ex} (h:∀ t∈l,t.1≠e):cf l e=0:=by
 induction l with
 | nil=>rfl
 | cons t l ih=>rw [bG,ih (fun s hs=>h s (by simp [hs])),if_neg (h t (by simp))];grind
theorem EP.tail {t:ai} {l:List ai} (h:EP (t::l)):EP l:=(List.pairwise_cons.1 h).2
theorem EP.head {t:ai} {l:List ai} (h:EP (t::l)):∀ s∈l,t.1.gt s.1=true:=(List.pairwise_cons.1 h).1
theorem aV.nil:aV []:=⟨List.Pairwise.nil,fun _ h=>by cases h⟩
theorem aV.tail {t:ai} {l:List ai} (h:aV (t::l)):aV l:=⟨h.1.tail,fun s hs=>h.2 s (by simp [hs])⟩
theorem aV.cf_head {t:ai} {l:List ai} (h:aV (t::l)):cf (t::l) t.1=t.2:=by
 rw [bG,if_pos rfl,mZ (fun s hs=>(Ex.gt_ne (h.1.head s hs)).symm)];grind
theorem aV.cf_top {t:ai} {l:List ai} (h:aV (t::l)) {e:Ex} (he:e.gt t.1=true):cf (t::l) e=0:=by
 refine mZ fun s hs=>?_;rcases List.mem_cons.1 hs with rfl|hs
 ·exact (Ex.gt_ne he).symm
 ·exact (Ex.gt_ne (Ex.gt_trans he (h.1.head s hs))).symm
theorem aV.inj:∀ {l r:List ai},aV l->aV r->(∀ e,cf l e=cf r e)->l=r
 | [],[],_,_,_=>rfl
 | [],t::r,_,hr,h=>absurd ((hr.cf_head).symm.trans (h t.1).symm) (hr.2 t (by simp)).1
 | t::l,[],hl,_,h=>absurd ((hl.cf_head).symm.trans (h t.1)) (hl.2 t (by simp)).1
 | t::l,s::r,hl,hr,h=>by
  have he:t.1=s.1:=by
   rcases hc:t.1.gt s.1 with _|_
   ·by_cases hne:t.1=s.1
    ·exact hne
    ·have hc':=Ex.gt_total hc hne;exact absurd (by rw [<- hr.cf_head,<- h];exact hl.cf_top hc') (hr.2 s (by simp)).1
   ·exact absurd (by rw [<- hl.cf_head,h];exact hr.cf_top hc) (hl.2 t (by simp)).1
  have h2:t.2=s.2:=by rw [<- hl.cf_head,<- hr.cf_head,h,he]
  have ht:t=s:=Prod.ext he h2;subst ht;rw [aV.inj hl.tail hr.tail fun e=>?_];have:=h e;rw [bG,bG] at this;grind
theorem aV.eqv_inj {l r:List ai} (hl:aV l) (hr:aV r) (h:Ld l r):l=r:=hl.inj hr h.cf
def ins:List ai->ai->List ai
 | [],m=>if m.2≠0/\m.1.nat=true then [m] else []
 | t::r,m=>if t.1.gt m.1 then t::ins r m else if t.1=m.1 then (if m.2+t.2≠0/\m.1.nat=true then (m.1,m.2+t.2)::r else r) else if m.2≠0/\m.1.nat=true then m::t::r else t::r
theorem Lg {l:List ai} {m s:ai} (h:s∈ins l m):s.1=m.1\/s∈l:=by
 induction l with
 | nil=>unfold ins at h;split at h <;> simp at h;exact .inl (by rw [h])
 | cons t r ih =>
  unfold ins at h;split at h
  ·rcases List.mem_cons.1 h with rfl|h
   ·exact .inr (by simp)
   ·exact (ih h).imp id (fun h=>by simp [h])
  ·split at h
   ·split at h
    ·rcases List.mem_cons.1 h with rfl|h
     ·exact .inl rfl
     ·exact .inr (by simp [h])
    ·exact .inr (by simp [h])
   ·split at h
    ·rcases List.mem_cons.1 h with rfl|h
     ·exact .inl rfl
     ·exact .inr h
    ·exact .inr h
theorem aV.ins {l:List ai} {m:ai} (h:aV l):aV (ins l m):=by
 induction l with
 | nil =>
  unfold Q.ins;split
  ·rename_i h;exact⟨List.pairwise_singleton _ _,fun s hs=>by simp at hs;subst hs;exact h⟩
  ·exact aV.nil
 | cons t r ih =>
  unfold Q.ins;split
  ·rename_i hg;refine⟨List.pairwise_cons.2 ⟨fun s hs=>?_,(ih h.tail).1⟩,fun s hs=>?_⟩
   ·rcases Lg hs with e|hs
    ·rw [e];exact hg
    ·exact h.1.head s hs
   ·rcases List.mem_cons.1 hs with rfl|hs
    ·exact h.2 _ (by simp)
    ·exact (ih h.tail).2 s hs
  ·rename_i hg;split
   ·rename_i he;split
    ·rename_i hc;refine⟨List.pairwise_cons.2 ⟨fun s hs=>?_,h.1.tail⟩,fun s hs=>?_⟩
     ·have:=h.1.head s hs;rw [he] at this;exact this
     ·rcases List.mem_cons.1 hs with rfl|hs
      ·exact hc
      ·exact h.2 s (by simp [hs])
    ·exact h.tail
   ·rename_i hne;split
    ·rename_i hc;have hg':=Ex.gt_total (by simpa using hg) hne;refine⟨List.pairwise_cons.2 ⟨fun s hs=>?_,h.1⟩,fun s hs=>?_⟩
     ·rcases List.mem_cons.1 hs with rfl|hs
      ·exact hg'
      ·exact Ex.gt_trans hg' (h.1.head s hs)
     ·rcases List.mem_cons.1 hs with rfl|hs
      ·exact hc
      ·exact h.2 s hs
    ·exact h
theorem UG {l:List ai} {m:ai} (h:aV l) (e:Ex):cf (ins l m) e=cf l e+if m.1.nat=true/\m.1=e then m.2 else 0:=by
 induction l with
 | nil=>unfold ins;split <;> simp only [bG,jd] <;> grind
 | cons t r ih =>
  unfold ins;split
  ·rw [bG,ih h.tail,bG];grind
  ·split
   ·rename_i he;have:=(h.2 t (by simp)).2;split <;> simp only [bG] <;> grind
   ·split <;> simp only [bG] <;> grind
def canon (l:List ai):List ai:=l.foldl ins []
theorem DI {l r:List ai} (h:aV r):aV (l.foldl ins r)/\∀ e,cf (l.foldl ins r) e=cf r e+if e.nat=true then cf l e else 0:=by
 induction l generalizing r with
 | nil=>exact⟨h,fun e=>by simp only [List.foldl_nil,jd];split <;> grind⟩
 | cons t l ih =>
  obtain⟨h1,h2⟩:=ih (h.ins (m:=t));refine⟨h1,fun e=>?_⟩;rw [List.foldl_cons,h2,UG h,bG];grind
theorem fD (l:List ai):aV (canon l):=(DI aV.nil).1
theorem mM (l:List ai) (e:Ex):cf (canon l) e=if e.nat=true then cf l e else 0:=by
 have:=(DI (l:=l) aV.nil).2 e;rw [jd] at this;unfold canon;rw [this];grind
def dh (l:List ai):Prop:=∀ t∈l,t.1.nat=true
theorem iN {l:List ai} (h:dh l):Ld (canon l) l:=Nr fun e=>by
 rw [mM];split
 ·rfl
 ·rename_i hn;exact (mZ fun t ht he=>hn (by rw [<- he];exact h t ht)).symm
theorem Pg {l r:List ai} (h:dh l) (hr:aV r) (he:Ld r l):canon l=r:=(fD l).inj hr fun e=>by rw [(iN h).cf,he.cf]
theorem aV.nat {l:List ai} (h:aV l):dh l:=fun t ht=>(h.2 t ht).2
theorem Ph {l:List ai} (h:aV l):canon l=l:=Pg h.nat h (Ld.refl _)
theorem yK {l r:List ai} (h:∀ e,e.nat=true->cf l e=cf r e):canon l=canon r:=(fD l).inj (fD r) fun e=>by
 rw [mM,mM];split
 ·rename_i he;exact h e he
 ·rfl
theorem Ld.canon {l r:List ai} (h:Ld l r):canon l=canon r:=yK fun e _=>h.cf e
end Q
end
section
namespace Q
abbrev Pt:=Rat × Rat × Rat × Rat
def Pt.get (x:Pt) (v:Nat):Rat:=match v with|0=>x.1|1=>x.2.1|2=>x.2.2.1|_=>x.2.2.2
def Pt.put (x:Pt) (v:Nat) (c:Rat):Pt:=match v with|0=>(c,x.2.1,x.2.2.1,x.2.2.2)|1=>(x.1,c,x.2.2.1,x.2.2.2)|2=>(x.1,x.2.1,c,x.2.2.2)|_=>(x.1,x.2.1,x.2.2.1,c)
def kP (x:Pt) (e:Ex):Rat:=x.1 ^ e.1.toNat * x.2.1 ^ e.2.1.toNat * x.2.2.1 ^ e.2.2.1.toNat * x.2.2.2 ^ e.2.2.2.toNat
def ev (x:Pt) (l:List ai):Rat:=Lf (kP x) l
theorem di (x:Pt):ev x []=0:=rfl
theorem jY (x:Pt) (t:ai) (l:List ai):ev x (t::l)=t.2*kP x t.1+ev x l:=rfl
theorem nW (x:Pt) (l r:List ai):ev x (l++r)=ev x l+ev x r:=nU _ _ _
theorem mO {l:List ai} (h:dh l) (x:Pt):ev x (canon l)=ev x l:=(iN h) _
theorem mP (x:Rat) (m n:Nat):x ^ (m+n)=x ^ m*x ^ n:=by
 induction n with
 | zero=>simp [Rat.pow_zero]
 | succ n ih=>rw [<- Nat.add_assoc,Rat.pow_succ,ih,Rat.pow_succ];grind
theorem Pi (x:Rat) (m n:Nat):x ^ (m*n)=(x ^ m) ^ n:=by
 induction n with
 | zero=>simp [Rat.pow_zero]
 | succ n ih=>rw [Nat.mul_succ,mP,ih,Rat.pow_succ]
theorem ES (x:Pt) {e f:Ex} (he:e.nat=true) (hf:f.nat=true):kP x (e.add f)=kP x e*kP x f:=by
 rw [Ex.nat_iff] at he hf;simp only [kP,Ex.add,Int.toNat_add,he,hf,mP];grind
def bH (c:Rat):Rat:=if c<0 then -c else c
def bD:List ai->Rat
 | []=>0
 | t::l=>bH t.2+bD l
theorem jP (l:List ai):0<=bD l:=by
 induction l with
 | nil=>exact Rat.le_refl
 | cons t l ih=>simp only [bD,bH];split <;> grind
theorem xG {T:Rat} (hT:1<=T) {m n:Nat} (h:m<=n):0<=T ^ m/\T ^ m<=T ^ n:=by
 obtain⟨d,rfl⟩:=Nat.exists_eq_add_of_le h
 have h1:∀ k:Nat,1<=T ^ k:=by
  intro k
  induction k with
  | zero=>rw [Rat.pow_zero];exact Rat.le_refl
  | succ k ih =>
   rw [Rat.pow_succ];have:1*T<=T ^ k*T:=Rat.mul_le_mul_of_nonneg_right ih (by grind);grind
 have h2:=h1 m;have h3:=h1 d;refine⟨by grind,?_⟩;rw [mP];have:T ^ m*1<=T ^ m*T ^ d:=Rat.mul_le_mul_of_nonneg_left h3 (by grind);grind
def Lh (K:Nat) (e:Ex):Nat:=e.1.toNat+K*(e.2.1.toNat+K*(e.2.2.1.toNat+K*e.2.2.2.toNat))
def V4 (K:Nat) (T:Rat):Pt:=(T,T ^ K,T ^ (K*K),T ^ (K*(K*K)))
theorem Li (K:Nat) (T:Rat) (e:Ex):kP (V4 K T) e=T ^ Lh K e:=by
 simp only [kP,V4,Lh,Nat.mul_add,mP,<- Pi,Nat.mul_assoc];grind
theorem Pj {K:Nat} {e f:Ex} (he:e.nat=true) (hf:f.nat=true) (h:e.gt f=true) (b0:f.1<K) (b1:f.2.1<K) (b2:f.2.2.1<K):Lh K f<Lh K e:=by
 rw [Ex.gt_iff] at h;rw [Ex.nat_iff] at he hf;obtain⟨a,b,c,d⟩:=e;obtain⟨a',b',c',d'⟩:=f;simp only [Lh] at *
 have key:∀ p q p' q':Nat,p' < K->q' < q->p'+K*q' < p+K*q:=by
  intro p q p' q' h1 h2;have:K*(q'+1)<=K*q:=Nat.mul_le_mul_left K h2;rw [Nat.mul_succ] at this;omega
 have key2:∀ p q p' q':Nat,p' < p->q'=q->p'+K*q' < p+K*q:=by
  intro p q p' q' h1 h2;rw [h2];omega
 rcases h with h|⟨h,h2⟩
 ·exact key _ _ _ _ (by omega) (key _ _ _ _ (by omega) (key _ _ _ _ (by omega) (by omega)))
 ·rcases h2 with h2|⟨h2,h3⟩
  ·exact key _ _ _ _ (by omega) (key _ _ _ _ (by omega) (key2 _ _ _ _ (by omega) (by omega)))
  ·rcases h3 with h3|⟨h3,h4⟩
   ·exact key _ _ _ _ (by omega) (key2 _ _ _ _ (by omega) (by rw [h,h2]))
   ·exact key2 _ _ _ _ (by omega) (by rw [h,h2,h3])
theorem Aw {K:Nat} {T:Rat} (hT:1<=T) (N:Nat):∀ l:List ai,(∀ t∈l,Lh K t.1<=N)->- (bD l*T ^ N)<=ev (V4 K T) l/\ev (V4 K T) l<=bD l*T ^ N
 | [],_=>by simp only [di,bD];constructor <;> grind
 | t::l,h=>by
  obtain⟨h1,h2⟩:=Aw hT N l (fun s hs=>h s (by simp [hs]));obtain⟨h3,h4⟩:=xG hT (h t (by simp));rw [jY,Li];simp only [bD];have h5:bH t.2*T ^ Lh K t.1<=bH t.2*T ^ N:=Rat.mul_le_mul_of_nonneg_left h4 (by unfold bH;split <;> grind)
  have h6:- (bH t.2*T ^ Lh K t.1)<=t.2*T ^ Lh K t.1/\t.2*T ^ Lh K t.1<=bH t.2*T ^ Lh K t.1:=by
   unfold bH;split
   ·have:0<=(-t.2)*T ^ Lh K t.1:=Rat.mul_nonneg (by grind) h3;constructor <;> grind
   ·have:0<=t.2*T ^ Lh K t.1:=Rat.mul_nonneg (by grind) h3;constructor <;> grind
  constructor <;> grind
theorem DJ:∀ l:List ai,∃ K:Nat,∀ t∈l,t.1.1<K/\t.1.2.1<K/\t.1.2.2.1<K
 | []=>⟨0,fun _ h=>by cases h⟩
 | t::l=>by
  obtain⟨K,h⟩:=DJ l;refine⟨K+t.1.1.toNat+t.1.2.1.toNat+t.1.2.2.1.toNat+1,fun s hs=>?_⟩;rcases List.mem_cons.1 hs with rfl|hs
  ·omega
  ·have:=h s hs;omega
theorem V5 {t:ai} {l:List ai} (h:aV (t::l)):∃ x,ev x (t::l)≠0:=by
 obtain⟨K,hK⟩:=DJ (t::l);have hc:=(h.2 t (by simp)).1;have hS:=jP l;have hpos:0<bH t.2:=by unfold bH;split <;> grind
 have hinv:0<=(bH t.2)⁻¹:=Rat.le_of_lt (Rat.inv_pos.2 hpos);obtain⟨T,hT⟩:∃ T,T=bD l*(bH t.2)⁻¹+1:=⟨_,rfl⟩;have hT1:1<=T:=by have:=Rat.mul_nonneg hS hinv;grind
 have hb:bD l<bH t.2*T:=by
  have h1:(bH t.2)⁻¹*bH t.2=1:=Rat.inv_mul_cancel _ (by grind);have h2:bH t.2*T=bD l+bH t.2:=by rw [hT];grind
  rw [h2];grind
 refine⟨V4 K T,fun h0=>?_⟩;rw [jY,Li] at h0;obtain⟨N,hN⟩:∃ N,N=Lh K t.1:=⟨_,rfl⟩;rw [<- hN] at h0
 cases N with
 | zero =>
  cases l with
  | nil=>rw [di,Rat.pow_zero] at h0;grind
  | cons s l =>
   have:=Pj (h.2 t (by simp)).2 (h.2 s (by simp)).2 (h.1.head s (by simp)) (hK s (by simp)).1 (hK s (by simp)).2.1 (hK s (by simp)).2.2;omega
 | succ N =>
  have ht:=Aw (K:=K) hT1 N l (fun s hs=>by
   have:=Pj (h.2 t (by simp)).2 (h.2 s (by simp [hs])).2 (h.1.head s hs) (hK s (by simp [hs])).1 (hK s (by simp [hs])).2.1 (hK s (by simp [hs])).2.2
   omega)
  have hp:0<T ^ N:=Rat.pow_pos (by grind);have hb':bD l*T ^ N<bH t.2*T*T ^ N:=Rat.mul_lt_mul_of_pos_right hb hp;rw [Rat.pow_succ] at h0;unfold bH at hb';split at hb' <;> grind
theorem kH {l r:List ai} (hl:aV l) (hr:aV r) (h:∀ x,ev x l=ev x r):l=r:=by
 have hn:dh (l++EQ r):=fun t ht=>by
  rcases List.mem_append.1 ht with ht|ht
  ·exact hl.nat t ht
  ·simp only [EQ,List.mem_map] at ht;obtain⟨s,hs,rfl⟩:=ht;exact hr.nat s hs
 have hz:∀ x,ev x (canon (l++EQ r))=0:=fun x=>by
  have:=h x;rw [mO hn,nW];unfold ev at *;rw [ER];grind
 have hnil:canon (l++EQ r)=[]:=by
  cases hc:canon (l++EQ r) with
  | nil=>rfl
  | cons t q =>
   obtain⟨x,hx⟩:=V5 (by rw [<- hc];exact fD _);rw [<- hc] at hx;exact absurd (hz x) hx
 refine hl.eqv_inj hr fun f=>?_;have:=iN hn f;rw [hnil,nU,ER,JA] at this;grind
theorem Ns {l r:List ai} (hl:dh l) (hr:aV r) (h:∀ x,ev x l=ev x r):canon l=r :=
 kH (fD _) hr fun x=>by rw [mO hl,h]
end Q
end
section
namespace Q
structure Sz where
 D:Nat
 B:Nat
 E:Nat
 N:Nat
def Dv (D:Nat) (c:Rat):Prop:=∃ k:Int,c*(D:Rat)=(k:Rat)
structure Bd (s:Sz) (l:List ai):Prop where
 n:l.length<=s.N
 e:∀ t∈l,-(s.E:Int)<=t.1.1/\t.1.1<=s.E/\-(s.E:Int)<=t.1.2.1/\t.1.2.1<=s.E/\-(s.E:Int)<=t.1.2.2.1/\t.1.2.2.1<=s.E/\-(s.E:Int)<=t.1.2.2.2/\t.1.2.2.2<=s.E
 d:∀ t∈l,Dv s.D t.2
 b:bD l<=(s.B:Rat)
def Sz.add (s t:Sz):Sz:=⟨Nat.lcm s.D t.D,s.B+t.B,max s.E t.E,s.N+t.N⟩
def Sz.mul (s t:Sz):Sz:=⟨s.D*t.D,s.B*t.B,s.E+t.E,s.N*t.N⟩
def Sz.ok (s:Sz):Prop:=0<s.D/\s.D<65536/\s.B<2 ^ 1000/\s.E<1000000/\s.N<1000000
instance (s:Sz):Decidable s.ok:=by unfold Sz.ok;infer_instance
def Sz.le (s t:Sz):Prop:=s.D∣t.D/\s.B<=t.B/\s.E<=t.E/\s.N<=t.N
instance (s t:Sz):Decidable (s.le t):=by unfold Sz.le;infer_instance
theorem Dv.dvd {D D':Nat} {c:Rat} (h:Dv D c) (hd:D∣D'):Dv D' c:=by
 obtain⟨k,hk⟩:=h;obtain⟨m,rfl⟩:=hd;exact⟨k*m,by rw [Rat.intCast_mul,Rat.intCast_natCast,Rat.natCast_mul];grind⟩
theorem Dv.add {D:Nat} {c d:Rat} (h:Dv D c) (h':Dv D d):Dv D (c+d):=by
 obtain⟨k,hk⟩:=h;obtain⟨m,hm⟩:=h';exact⟨k+m,by rw [Rat.intCast_add];grind⟩
theorem Dv.mul {D D':Nat} {c d:Rat} (h:Dv D c) (h':Dv D' d):Dv (D*D') (c*d):=by
 obtain⟨k,hk⟩:=h;obtain⟨m,hm⟩:=h';exact⟨k*m,by rw [Rat.intCast_mul,Rat.natCast_mul];grind⟩
theorem Dv.neg {D:Nat} {c:Rat} (h:Dv D c):Dv D (-c):=by
 obtain⟨k,hk⟩:=h;exact⟨-k,by rw [Rat.intCast_neg];grind⟩
theorem Dv.zero (D:Nat):Dv D 0:=⟨0,by simp⟩
theorem Dv.int (D:Nat) (k:Int):Dv D k:=⟨k*D,by rw [Rat.intCast_mul,Rat.intCast_natCast]⟩
theorem eu (c:Rat):0<=bH c:=by unfold bH;split <;> grind
theorem Ay (c d:Rat):bH (c+d)<=bH c+bH d:=by unfold bH;split <;> split <;> split <;> grind
theorem Az (c:Rat):bH (-c)=bH c:=by unfold bH;split <;> split <;> grind
theorem xH (c:Rat):c<0\/0<=c:=by grind
theorem pE {c:Rat} (h:c<0):bH c=-c:=by unfold bH;rw [if_pos h]
theorem bJ {c:Rat} (h:0<=c):bH c=c:=by unfold bH;rw [if_neg (by grind)]
theorem jo (c d:Rat):bH (c*d)=bH c*bH d:=by
 rcases xH c with hc|hc <;> rcases xH d with hd|hd
 ·have:=Rat.mul_pos (show 0 < -c by grind) (show 0 < -d by grind);have e:-c*-d=c*d:=by grind
  rw [e] at this;rw [pE hc,pE hd,bJ (Rat.le_of_lt this),e]
 ·have:=Rat.mul_nonneg (show 0<=-c by grind) hd;have e:-c*d=-(c*d):=by grind
  rw [e] at this;rw [pE hc,bJ hd,e,<- Az,bJ this]
 ·have:=Rat.mul_nonneg hc (show 0<=-d by grind);have e:c*-d=-(c*d):=by grind
  rw [e] at this;rw [bJ hc,pE hd,e,<- Az,bJ this]
 ·rw [bJ hc,bJ hd,bJ (Rat.mul_nonneg hc hd)]
theorem pF (l r:List ai):bD (l++r)=bD l+bD r:=by
 induction l with
 | nil=>simp only [List.nil_append,bD];grind
 | cons t l ih=>simp only [List.cons_append,bD,ih];grind
theorem sF {l:List ai} {t:ai} (h:t∈l):bH t.2<=bD l:=by
 induction l with
 | nil=>cases h
 | cons s l ih =>
  simp only [bD];rcases List.mem_cons.1 h with rfl|h
  ·have:=jP l;grind
  ·have:=ih h;have:=eu s.2;grind
theorem ET {l:List ai} {g:ai->ai} {c:Rat} (h:∀ t∈l,bH (g t).2<=bH t.2*c):bD (l.map g)<=bD l*c:=by
 induction l with
 | nil=>simp only [List.map_nil,bD];grind
 | cons t l ih =>
  have:=h t (by simp);have:=ih (fun s hs=>h s (by simp [hs]));simp only [List.map_cons,bD];grind
theorem Bd.nil (s:Sz):Bd s []:=⟨Nat.zero_le _,(fun t h=>absurd h (by simp)),(fun t h=>absurd h (by simp)),by simp only [bD];exact Rat.natCast_nonneg⟩
theorem Bd.append {s t:Sz} {l r:List ai} (h:Bd s l) (h':Bd t r):Bd (s.add t) (l++r) where
 n:=by have:=h.n;have:=h'.n;simp only [List.length_append,Sz.add];omega
 e:=fun x hx=>by
  simp only [Sz.add];rcases List.mem_append.1 hx with hx|hx
  ·have:=h.e x hx;omega
  ·have:=h'.e x hx;omega
 d:=fun x hx=>by
  rcases List.mem_append.1 hx with hx|hx
  ·exact (h.d x hx).dvd (Nat.dvd_lcm_left _ _)
  ·exact (h'.d x hx).dvd (Nat.dvd_lcm_right _ _)
 b:=by rw [pF];simp only [Sz.add];rw [Rat.natCast_add];have:=h.b;have:=h'.b;grind
theorem Bd.sub {s:Sz} {l r:List ai} (h:Bd s l) (hr:r.Sublist l):Bd s r where
 n:=Nat.le_trans hr.length_le h.n
 e:=fun x hx=>h.e x (hr.subset hx)
 d:=fun x hx=>h.d x (hr.subset hx)
 b:=by
  refine Rat.le_trans ?_ h.b;clear h
  induction hr with
  | slnil=>exact Rat.le_refl
  | cons t _ ih=>have:=eu t.2;simp only [bD];grind
  | cons_cons t _ ih=>simp only [bD];grind
theorem JC (l:List ai) (m:ai):(ins l m).length<=l.length+1:=by
 induction l with
 | nil=>unfold ins;split <;> simp
 | cons t r ih=>unfold ins;split <;> (try split) <;> (try split) <;> simp <;> omega
theorem AA (l:List ai) (m:ai):bD (ins l m)<=bD l+bH m.2:=by
 have:=eu m.2
 induction l with
 | nil=>unfold ins;split <;> simp only [bD] <;> grind
 | cons t r ih =>
  have:=Ay m.2 t.2;have:=eu t.2;unfold ins;split <;> (try split) <;> (try split) <;> simp only [bD] <;> grind
theorem UH {D:Nat} {l:List ai} {m:ai} (h:∀ t∈l,Dv D t.2) (hm:Dv D m.2):∀ t∈ins l m,Dv D t.2:=by
 induction l with
 | nil=>unfold ins;split <;> simp;exact hm
 | cons t r ih =>
  unfold ins;split
  ·intro s hs;rcases List.mem_cons.1 hs with rfl|hs
   ·exact h _ (by simp)
   ·exact ih (fun s hs=>h s (by simp [hs])) s hs
  ·split
   ·split
    ·intro s hs;rcases List.mem_cons.1 hs with rfl|hs
     ·exact hm.add (h t (by simp))
     ·exact h s (by simp [hs])
    ·intro s hs;exact h s (by simp [hs])
   ·split
    ·intro s hs;rcases List.mem_cons.1 hs with rfl|hs
     ·exact hm
     ·exact h s hs
    ·exact h
theorem Pm {p:Ex->Prop} {l:List ai} {m:ai} (h:∀ t∈l,p t.1) (hm:p m.1):∀ t∈ins l m,p t.1:=fun t ht=>by
 rcases Lg ht with e|ht
 ·rw [e];exact hm
 ·exact h t ht
theorem AB {p:Ex->Prop} {D:Nat}:∀ {l r:List ai},(∀ t∈l,p t.1)->(∀ t∈r,p t.1)->(∀ t∈l,Dv D t.2)->(∀ t∈r,Dv D t.2) ->
  (l.foldl ins r).length<=r.length+l.length/\bD (l.foldl ins r)<=bD r+bD l/\(∀ t∈l.foldl ins r,p t.1)/\∀ t∈l.foldl ins r,Dv D t.2
 | [],r,_,h2,_,h4=>⟨by simp,by simp only [List.foldl_nil,bD];grind,h2,h4⟩
 | m::l,r,h1,h2,h3,h4=>by
  have:=AB (l:=l) (r:=ins r m) (fun t ht=>h1 t (by simp [ht])) (Pm h2 (h1 m (by simp))) (fun t ht=>h3 t (by simp [ht])) (UH h4 (h3 m (by simp)));have h5:=JC r m;have h6:=AA r m;refine⟨?_,?_,this.2.2.1,this.2.2.2⟩
  ·simp only [List.foldl_cons,List.length_cons];omega
  ·have:=this.2.1;simp only [List.foldl_cons,bD];grind
theorem Bd.canon {s:Sz} {l:List ai} (h:Bd s l):Bd s (canon l):=by
 have:=AB (l:=l) (r:=[]) (p:=fun e=>-(s.E:Int)<=e.1/\e.1<=s.E/\-(s.E:Int)<=e.2.1/\e.2.1<=s.E/\-(s.E:Int)<=e.2.2.1/\e.2.2.1<=s.E/\-(s.E:Int)<=e.2.2.2/\e.2.2.2<=s.E) (D:=s.D)
  h.e (fun _ h=>by cases h) h.d (fun _ h=>by cases h)
 refine⟨Nat.le_trans (by simpa [Q.canon] using this.1) h.n,this.2.2.1,this.2.2.2,Rat.le_trans this.2.1 ?_⟩;have:=h.b;simp only [bD];grind
def mulT (s t:ai):ai:=(s.1.add t.1,s.2*t.2)
def prods (l r:List ai):List ai:=l.flatMap fun s=>r.map (mulT s)
theorem xJ (r:List ai):prods [] r=[]:=rfl
theorem jQ (s:ai) (l r:List ai):prods (s::l) r=r.map (mulT s)++prods l r:=rfl
theorem dh.append {l r:List ai} (h:dh l) (h':dh r):dh (l++r):=fun t ht=>by
 rcases List.mem_append.1 ht with ht|ht
 ·exact h t ht
 ·exact h' t ht
theorem dh.mulT {s:ai} {r:List ai} (hs:s.1.nat=true) (h:dh r):dh (r.map (mulT s)):=fun t ht=>by
 obtain⟨u,hu,rfl⟩:=List.mem_map.1 ht;exact Ex.nat_add hs (h u hu)
theorem dh.tail {s:ai} {l:List ai} (h:dh (s::l)):dh l:=fun t ht=>h t (by simp [ht])
theorem dh.head {s:ai} {l:List ai} (h:dh (s::l)):s.1.nat=true:=h s (by simp)
theorem dh.nil:dh []:=fun _ h=>by cases h
theorem dh.prods:∀ {l r:List ai},dh l->dh r->dh (prods l r)
 | [],_,_,_=>dh.nil
 | _::_,_,h,h'=>(dh.mulT h.head h').append (dh.prods h.tail h')
theorem GI {s:ai} {r:List ai} (x:Pt) (hs:s.1.nat=true) (h:dh r):ev x (r.map (mulT s))=s.2*kP x s.1*ev x r:=by
 induction r with
 | nil=>simp only [List.map_nil,di];grind
 | cons t r ih=>rw [List.map_cons,jY,jY,ih h.tail];simp only [mulT];rw [ES x hs h.head];grind
theorem GJ:∀ {l r:List ai} (x:Pt),dh l->dh r->ev x (prods l r)=ev x l*ev x r
 | [],_,x,_,_=>by rw [xJ,di];grind
 | s::l,r,x,h,h'=>by rw [jQ,nW,GI x h.head h',GJ x h.tail h',jY];grind
theorem CL (s:ai) (r:List ai):bD (r.map (mulT s))=bH s.2*bD r:=by
 induction r with
 | nil=>simp only [List.map_nil,bD];grind
 | cons t r ih=>simp only [List.map_cons,bD,ih,mulT,jo];grind
theorem AC (l r:List ai):bD (prods l r)=bD l*bD r:=by
 induction l with
 | nil=>simp only [xJ,bD];grind
 | cons s l ih=>rw [jQ,pF,ih,CL];simp only [bD];grind
theorem vP (l r:List ai):(prods l r).length=l.length*r.length:=by
 induction l with
 | nil=>simp [xJ]
 | cons s l ih=>rw [jQ];simp [ih,Nat.add_mul];omega
theorem jZ {l r:List ai} {t:ai} (h:t∈prods l r):∃ a∈l,∃ b∈r,t=mulT a b:=by
 simp only [prods,List.mem_flatMap,List.mem_map] at h;obtain⟨a,ha,b,hb,e⟩:=h;exact⟨a,ha,b,hb,e.symm⟩
theorem pG {a b c d:Rat} (h1:a<=b) (h2:c<=d) (h3:0<=a) (h4:0<=d):a*c<=b*d:=by
 have h5:a*c<=a*d:=Rat.mul_le_mul_of_nonneg_left h2 h3;have h6:a*d<=b*d:=Rat.mul_le_mul_of_nonneg_right h1 h4;grind
theorem Bd.prods {s t:Sz} {l r:List ai} (h:Bd s l) (h':Bd t r):Bd (s.mul t) (prods l r) where
 n:=by rw [vP];exact Nat.mul_le_mul h.n h'.n
 e:=fun x hx=>by
  obtain⟨a,ha,b,hb,rfl⟩:=jZ hx;have:=h.e a ha;have:=h'.e b hb;simp only [mulT,Ex.add,Sz.mul];omega
 d:=fun x hx=>by
  obtain⟨a,ha,b,hb,rfl⟩:=jZ hx;exact (h.d a ha).mul (h'.d b hb)
 b:=by
  rw [AC];simp only [Sz.mul];rw [Rat.natCast_mul];exact pG h.b h'.b (jP _) (Rat.natCast_nonneg)
end Q
end
section
namespace Q
abbrev e0:Ex:=(0,0,0,0)
def bX (c:Rat):List ai:=if c=0 then [] else [(e0,c)]
def yL (v:Nat):Ex:=Ex.put e0 v 1
def GK (v:Nat):List ai:=[(yL v,1)]
def lN (p q:List ai):List ai:=canon (p++q)
def bY (p:List ai) (c:Rat):List ai:=if c=0 then [] else p.map fun t=>(t.1,t.2*c)
def dK (p q:List ai):List ai:=lN p (bY q (-1))
def aQ (p q:List ai):List ai:=canon (prods p q)
def mf (p:List ai):Nat->List ai
 | 0=>bX 1
 | n+1=>aQ (mf p n) p
def aG (p:List ai) (v:Nat):Int:=p.foldl (fun d t=>max d (t.1.get v)) (-1)
def aD (p:List ai) (v:Nat) (n:Int):List ai:=(p.filter fun t=>t.1.get v=n).map fun t=>(t.1.put v 0,t.2)
def aB (p:List ai) (v:Nat):List (List ai):=(List.range (aG p v+1).toNat).map fun n:Nat=>aD p v n
def gD (p:List ai) (v:Nat) (i:Int):List ai:=p.map fun t=>(t.1.put v (t.1.get v+i),t.2)
def fromL (v:Nat):Int->List (List ai)->List ai
 | _,[]=>[]
 | i,p::l=>gD p v i++fromL v (i+1) l
def sG (l:List (List ai)) (v:Nat):List ai:=canon (fromL v 0 l)
def dA (p:List ai) (v:Nat):List ai:=(p.filter fun t=>0<t.1.get v).map fun t=>(t.1.put v (t.1.get v-1),t.2*(t.1.get v:Rat))
def evalL (p:List ai) (v:Nat) (c:Rat):List ai:=p.map fun t=>(t.1.put v 0,t.2*c ^ (t.1.get v).toNat)
def vQ (p:List ai) (v:Nat) (c:Rat):List ai:=canon (evalL p v c)
def XA (p:List ai) (v:Nat) (b:List ai):List ai:=(aB p v).foldr (fun c out=>lN (aQ out b) c) []
theorem aV.const (c:Rat):aV (bX c):=by
 unfold bX;split
 ·exact aV.nil
 ·rename_i h;exact⟨List.pairwise_cons.2 ⟨fun _ h=>(by cases h),List.Pairwise.nil⟩,fun t ht=>by simp at ht;subst ht;exact⟨h,rfl⟩⟩
theorem Nt (v:Nat):(yL v).nat=true:=by rcases v with _|_|_|v <;> rfl
theorem aV.var (v:Nat):aV (GK v) :=
 ⟨List.pairwise_cons.2 ⟨fun _ h=>(by cases h),List.Pairwise.nil⟩,fun t ht=>by simp [GK] at ht;subst ht;exact⟨(by decide:(1:Rat)≠0),Nt v⟩⟩
theorem aV.add (p q:List ai):aV (lN p q):=fD _
theorem aV.mul (p q:List ai):aV (aQ p q):=fD _
theorem aV.sub (p q:List ai):aV (dK p q):=fD _
theorem je {a b:Rat} (ha:a≠0) (hb:b≠0):a*b≠0:=by
 intro h;rcases Rat.mul_eq_zero.1 h with h|h
 ·exact ha h
 ·exact hb h
theorem EP.map {l:List ai} {g:ai->ai} (h:EP l) (hg:∀ s∈l,∀ t∈l,s.1.gt t.1=true->(g s).1.gt (g t).1=true):EP (l.map g):=by
 unfold EP at *;rw [List.pairwise_map];exact h.imp_of_mem fun hs ht=>hg _ hs _ ht
theorem aV.scale {p:List ai} (h:aV p) (c:Rat):aV (bY p c):=by
 unfold bY;split
 ·exact aV.nil
 ·rename_i hc;refine⟨h.1.map fun _ _ _ _ h=>h,fun t ht=>?_⟩;obtain⟨s,hs,rfl⟩:=List.mem_map.1 ht;exact⟨je (h.2 s hs).1 hc,(h.2 s hs).2⟩
theorem aV.pow (p:List ai):∀ n,aV (mf p n)
 | 0=>aV.const _
 | _+1=>fD _
theorem Ex.put_nat {e:Ex} (h:e.nat=true) (v:Nat) {x:Int} (hx:0<=x):(e.put v x).nat=true:=by
 rw [Ex.nat_iff] at *;rcases v with _|_|_|v <;> simp only [Ex.put] <;> omega
theorem Ex.get_put (e:Ex) (v:Nat) (x:Int):(e.put v x).get v=x:=by rcases v with _|_|_|v <;> rfl
theorem Ex.put_get (e:Ex) (v:Nat):e.put v (e.get v)=e:=by rcases v with _|_|_|v <;> rfl
theorem Ex.put_put (e:Ex) (v:Nat) (x y:Int):(e.put v x).put v y=e.put v y:=by rcases v with _|_|_|v <;> rfl
theorem Ex.gt_put_same {e f:Ex} (v:Nat) (h:e.gt f=true) (hv:e.get v=f.get v) (x:Int):(e.put v x).gt (f.put v x)=true:=by
 rw [Ex.gt_iff] at *;obtain⟨a,b,c,d⟩:=e;obtain⟨a',b',c',d'⟩:=f;rcases v with _|_|_|v <;> simp only [Ex.put,Ex.get] at h hv ⊢ <;> subst hv <;> simp only [Int.lt_irrefl,and_false,or_false,false_or,true_and] at h ⊢ <;> omega
theorem EP.sub {l r:List ai} (h:EP l) (hr:r.Sublist l):EP r:=List.Pairwise.sublist hr h
theorem aV.sublist {l r:List ai} (h:aV l) (hr:r.Sublist l):aV r:=⟨h.1.sub hr,fun t ht=>h.2 t (hr.subset ht)⟩
theorem aV.coeff {p:List ai} (h:aV p) (v:Nat) (n:Int):aV (aD p v n):=by
 unfold aD;have h':=h.sublist (List.filter_sublist (l:=p) (p:=fun t=>t.1.get v=n));refine⟨h'.1.map fun s hs t ht hst=>Ex.gt_put_same v hst ?_ 0,fun t ht=>?_⟩
 ·have h1:=(List.mem_filter.1 hs).2;have h2:=(List.mem_filter.1 ht).2;simp only [decide_eq_true_eq] at h1 h2;rw [h1,h2]
 ·obtain⟨s,hs,rfl⟩:=List.mem_map.1 ht;exact⟨(h'.2 s hs).1,Ex.put_nat (h'.2 s hs).2 v (Int.le_refl _)⟩
theorem lS (x:Pt) (c:Rat):ev x (bX c)=c:=by
 unfold bX;split
 ·rename_i h;rw [di,h]
 ·rw [jY,di];simp [kP];grind
theorem UI (x:Pt) (v:Nat):ev x (GK v)=x.get v:=by
 rw [GK,jY,di]
 have:kP x (yL v)=x.get v:=by
  rcases v with _|_|_|v <;> simp [yL,Ex.put,Pt.get,kP,Rat.pow_succ,Rat.pow_zero]
 rw [this];grind
theorem ev_add (x:Pt) {p q:List ai} (h:dh p) (h':dh q):ev x (lN p q)=ev x p+ev x q:=by
 rw [lN,mO (h.append h'),nW]
theorem ev_scale (x:Pt) (p:List ai) (c:Rat):ev x (bY p c)=ev x p*c:=by
 unfold bY;split
 ·rename_i h;rw [di,h];grind
 ·unfold ev;rw [xE _ _ (fun e=>c*kP x e) p (fun t _=>by grind),jc];grind
theorem ev_sub (x:Pt) {p q:List ai} (h:dh p) (h':aV q):ev x (dK p q)=ev x p-ev x q:=by
 rw [dK,ev_add x h (h'.scale _).nat,ev_scale];grind
theorem ev_mul (x:Pt) {p q:List ai} (h:dh p) (h':dh q):ev x (aQ p q)=ev x p*ev x q:=by
 rw [aQ,mO (h.prods h'),GJ x h h']
theorem ev_pow (x:Pt) {p:List ai} (h:dh p):∀ n,ev x (mf p n)=ev x p ^ n
 | 0=>by rw [mf,lS,Rat.pow_zero]
 | n+1=>by rw [mf,ev_mul x (aV.pow p n).nat h,ev_pow x h n,Rat.pow_succ]
theorem zD (x:Pt) (e:Ex) (v:Nat) (c:Rat):kP (x.put v c) e=kP x (e.put v 0)*c ^ (e.get v).toNat:=by
 rcases v with _|_|_|v <;> simp only [Pt.put,Ex.put,Ex.get,kP,Int.toNat_zero,Rat.pow_zero] <;> grind
theorem GL (x:Pt) (e:Ex) (v:Nat) (n:Int):kP x (e.put v n)=kP x (e.put v 0)*x.get v ^ n.toNat:=by
 rcases v with _|_|_|v <;> simp only [Pt.get,Ex.put,kP,Int.toNat_zero,Rat.pow_zero] <;> grind
theorem dh.evalL {p:List ai} (h:dh p) (v:Nat) (c:Rat):dh (evalL p v c):=fun t ht=>by
 obtain⟨s,hs,rfl⟩:=List.mem_map.1 ht;exact Ex.put_nat (h s hs) v (Int.le_refl _)
theorem Pn (x:Pt) (p:List ai) (v:Nat) (c:Rat):ev x (evalL p v c)=ev (x.put v c) p:=by
 unfold ev evalL;exact xE _ _ _ p fun t _=>by rw [zD];grind
theorem ev_eval (x:Pt) {p:List ai} (h:dh p) (v:Nat) (c:Rat):ev x (vQ p v c)=ev (x.put v c) p:=by
 rw [vQ,mO (h.evalL v c),Pn]
theorem gW (f:ai->Int):∀ (p:List ai) (d:Int),d<=p.foldl (fun d t=>max d (f t)) d/\(∀ t∈p,f t<=p.foldl (fun d t=>max d (f t)) d)/\(p.foldl (fun d t=>max d (f t)) d=d\/∃ t∈p,f t=p.foldl (fun d t=>max d (f t)) d)
 | [],d=>⟨Int.le_refl _,(fun _ h=>by cases h),Or.inl rfl⟩
 | t::p,d=>by
  obtain⟨h1,h2,h3⟩:=gW f p (max d (f t));refine⟨by simp only [List.foldl_cons];omega,fun s hs=>?_,?_⟩
  ·simp only [List.foldl_cons];rcases List.mem_cons.1 hs with rfl|hs
   ·omega
   ·exact h2 s hs
  ·simp only [List.foldl_cons];rcases h3 with h3|⟨s,hs,h3⟩
   ·rw [h3];rcases Int.le_total d (f t) with h|h
    ·exact Or.inr ⟨t,by simp,by omega⟩
    ·exact Or.inl (by omega)
   ·exact Or.inr ⟨s,by simp [hs],h3⟩
theorem ug (p:List ai) (v:Nat):-1<=aG p v:=(gW (fun t=>t.1.get v) p (-1)).1
theorem dU {p:List ai} {t:ai} (h:t∈p) (v:Nat):t.1.get v<=aG p v:=(gW (fun t=>t.1.get v) p (-1)).2.1 t h
theorem kQ {p:List ai} (h:p≠[]) (hn:dh p) (v:Nat):∃ t∈p,t.1.get v=aG p v:=by
 rcases (gW (fun t=>t.1.get v) p (-1)).2.2 with h1|h1
 ·exfalso
  cases p with
  | nil=>exact h rfl
  | cons t p =>
   have:=dU (p:=t::p) (t:=t) (by simp) v;have:=Ex.nat_get (hn t (by simp)) v;unfold aG at *;omega
 ·exact h1
theorem aW (p:List ai) (v:Nat):(aB p v).length=(aG p v+1).toNat:=by simp [aB]
theorem dX (f:Ex->Rat) (p:List ai) (v:Nat) (n:Int):Lf f (aD p v n)=Lf (fun e=>if e.get v=n then f (e.put v 0) else 0) p:=by
 unfold aD
 induction p with
 | nil=>rfl
 | cons t p ih =>
  simp only [List.filter_cons];split
  ·rename_i h;simp only [decide_eq_true_eq] at h;simp only [List.map_cons,nG,ih,if_pos h]
  ·rename_i h;simp only [decide_eq_true_eq] at h;simp only [nG,ih,if_neg h];grind
def bf (f:Nat->Rat):Nat->Rat
 | 0=>0
 | n+1=>bf f n+f n
theorem dC {f g:Nat->Rat}:∀ {n:Nat},(∀ i,i<n->f i=g i)->bf f n=bf g n
 | 0,_=>rfl
 | n+1,h=>by rw [bf,bf,dC (n:=n) (fun i hi=>h i (by omega)),h n (by omega)]
theorem vR (f g:Nat->Rat):∀ n,bf (fun i=>f i+g i) n=bf f n+bf g n
 | 0=>by simp only [bf];grind
 | n+1=>by simp only [bf,vR f g n];grind
theorem vS {f:Nat->Rat} {k:Nat}:∀ {n:Nat},k<n->(∀ i,i<n->i≠k->f i=0)->bf f n=f k
 | 0,h,_=>by omega
 | n+1,h,h'=>by
  rw [bf];by_cases e:k=n
  ·subst e;have:bf f k=bf (fun _=>0) k:=dC fun i hi=>h' i (by omega) (by omega)
   have z:∀ m,bf (fun _=>(0:Rat)) m=0:=by intro m;induction m with
    | zero=>rfl
    | succ m ih=>simp only [bf,ih];grind
   rw [this,z];grind
  ·rw [vS (n:=n) (by omega) (fun i hi hne=>h' i (by omega) hne),h' n (by omega) (fun e'=>e e'.symm)];grind
theorem AJ (x:Pt) (v:Nat) (c:Rat) (N:Nat):∀ {p:List ai},dh p->(∀ t∈p,t.1.get v<N)->ev (x.put v c) p=bf (fun n=>ev x (aD p v n)*c ^ n) N
 | [],_,_=>by
  have:∀ m,bf (fun n=>ev x (aD [] v n)*c ^ n) m=0:=by
   intro m;induction m with
   | zero=>rfl
   | succ m ih=>simp only [bf,ih];show (0:Rat)+(0:Rat)*_=0;grind
  rw [this];rfl
 | t::p,h,hN=>by
  have h1:=Ex.nat_get h.head v;have h2:=hN t (by simp);rw [jY,AJ x v c N h.tail (fun s hs=>hN s (by simp [hs])),zD]
  have e:∀ n:Nat,ev x (aD (t::p) v n)*c ^ n=(if t.1.get v=n then t.2*kP x (t.1.put v 0) else 0)*c ^ n+ev x (aD p v n)*c ^ n:=by
   intro n;unfold ev;rw [dX,dX,nG];split <;> grind
  rw [dC (fun i _=>e i),vR,vS (f:=fun n:Nat=>(if t.1.get v=(n:Int) then t.2*kP x (t.1.put v 0) else 0)*c ^ n) (k:=(t.1.get v).toNat) (by omega) (fun i _ hi=>by rw [if_neg (by omega)];grind),if_pos (by omega)];grind
theorem EU {p:List ai} {v:Nat}:∀ t∈p,t.1.get v<((aG p v+1).toNat:Int):=fun t ht=>by have:=dU ht v;have:=ug p v;omega
def Xn (b:List ai) (l:List (List ai)):List ai:=l.foldr (fun c out=>lN (aQ out b) c) []
theorem gF {p c:List ai} {v:Nat} (h:c∈aB p v):∃ n:Nat,c=aD p v n:=by
 obtain⟨n,_,e⟩:=List.mem_map.1 h;exact⟨n,e.symm⟩
theorem ja {p:List ai} {v n:Nat} (h:n<(aG p v+1).toNat):(aB p v).getD n []=aD p v n:=by
 simp [aB,List.getD_eq_getElem?_getD,h]
theorem Po (x:Pt) {p:List ai} (h:dh p) (v i:Nat):ev x (gD p v i)=ev x p*x.get v ^ i:=by
 unfold ev gD
 rw [xE _ _ (fun e=>x.get v ^ i*kP x e) p (fun t ht=>by
  have:=Ex.nat_get (h t ht) v;rw [GL x t.1 v (t.1.get v+i),Int.toNat_add this (Int.natCast_nonneg i),mP];have e:=GL x t.1 v (t.1.get v);rw [Ex.put_get] at e;simp only [Int.toNat_natCast]
  rw [e];grind),jc];grind
theorem dh.shift {p:List ai} (h:dh p) (v:Nat) {i:Int} (hi:0<=i):dh (gD p v i):=fun t ht=>by
 obtain⟨s,hs,rfl⟩:=List.mem_map.1 ht;exact Ex.put_nat (h s hs) v (by have:=Ex.nat_get (h s hs) v;omega)
theorem dh.fromL (v:Nat):∀ {l:List (List ai)} {i:Int},0<=i->(∀ c∈l,dh c)->dh (fromL v i l)
 | [],_,_,_=>dh.nil
 | c::l,i,hi,h=>((h c (by simp)).shift v hi).append (dh.fromL v (by omega) (fun c hc=>h c (by simp [hc])))
theorem GM (x:Pt) (v:Nat):∀ {l:List (List ai)} {i:Nat},(∀ c∈l,dh c)->ev x (fromL v i l)=bf (fun n=>ev x (l.getD n [])*x.get v ^ n) l.length*x.get v ^ i
 | [],i,_=>by simp only [fromL,di,List.length_nil,bf];grind
 | c::l,i,h=>by
  have e:((i:Int)+1)=((i+1:Nat):Int):=by omega
  rw [fromL,nW,Po x (h c (by simp)),e,GM x v (fun c hc=>h c (by simp [hc]))]
  have key:∀ n:Nat,bf (fun i=>ev x ((c::l).getD i [])*x.get v ^ i) (n+1)=bf (fun i=>ev x (l.getD i [])*x.get v ^ i) n*x.get v+ev x c:=by
   intro n
   induction n with
   | zero=>simp only [bf,List.getD_cons_zero,Rat.pow_zero];grind
   | succ n ih =>
    rw [bf,ih];simp only [bf,List.getD_cons_succ,Rat.pow_succ];grind
  rw [List.length_cons,key,Rat.pow_succ];grind
theorem EW (x:Pt) (v:Nat) {l:List (List ai)} (h:∀ c∈l,dh c):ev x (sG l v)=bf (fun n=>ev x (l.getD n [])*x.get v ^ n) l.length:=by
 have:=GM x v (i:=0) h;rw [sG,mO (dh.fromL v (Int.le_refl _) h)];rw [show ((0:Nat):Int)=0 from rfl] at this;rw [this,Rat.pow_zero];grind
theorem Pt.put_get (x:Pt) (v:Nat):x.put v (x.get v)=x:=by rcases v with _|_|_|v <;> rfl
theorem yN {p:List ai} (h:aV p) (v:Nat):sG (aB p v) v=p:=by
 refine Ns (dh.fromL v (Int.le_refl _) fun c hc=>?_) h fun x=>?_
 ·obtain⟨n,rfl⟩:=gF hc;exact (h.coeff v n).nat
 ·have:=EW x v (l:=aB p v) (fun c hc=>by obtain⟨n,rfl⟩:=gF hc;exact (h.coeff v n).nat);rw [sG,mO (dh.fromL v (Int.le_refl _) fun c hc=>by obtain⟨n,rfl⟩:=gF hc;exact (h.coeff v n).nat)] at this;rw [this];have e:=AJ x v (x.get v) _ h.nat EU;rw [Pt.put_get] at e;rw [e,aW];exact dC fun i hi=>by rw [ja hi]
end Q
end
section
namespace Q
theorem JD {l:List ai} (h:l.Pairwise (fun s t=>s.1≠t.1)) {t:ai} (ht:t∈l):cf l t.1=t.2:=by
 induction l with
 | nil=>cases ht
 | cons s l ih =>
  obtain⟨h1,h2⟩:=List.pairwise_cons.1 h;rw [bG];rcases List.mem_cons.1 ht with rfl|ht
  ·rw [if_pos rfl,mZ (fun u hu=>(h1 u hu).symm)];grind
  ·rw [if_neg (h1 t ht),ih h2 ht];grind
theorem Pp {l:List ai} {e:Ex} (h:cf l e≠0):∃ t∈l,t.1=e:=by
 apply Classical.byContradiction;intro hn;exact h (mZ fun t ht he=>hn ⟨t,ht,he⟩)
theorem Sj {l r:List ai} (h:l.Perm r) (e:Ex):cf l e=cf r e:=by
 induction h with
 | nil=>rfl
 | cons x _ ih=>rw [bG,bG,ih]
 | swap x y l=>rw [bG,bG,bG,bG];grind
 | trans _ _ h1 h2=>rw [h1,h2]
theorem xK {l L l':List ai} (h1:L.Pairwise (fun s t=>s.1≠t.1)) (h2:∀ t∈L,t.1.nat=true/\t.2=cf l t.1/\t.2≠0) (h3:∀ e:Ex,e.nat=true->cf l e≠0->(e,cf l e)∈L)
  (hp:L.Perm l') (hs:l'.Pairwise (fun s t=>t.1.gt s.1=false)):l'=canon l:=by
 have h1':l'.Pairwise (fun s t=>s.1≠t.1):=(hp.pairwise_iff (fun h=>Ne.symm h)).1 h1
 have hsrt:EP l':=by
  have:=List.pairwise_and_iff.2 ⟨hs,h1'⟩;exact this.imp fun⟨a,b⟩=>Ex.gt_total a (fun e=>b e.symm)
 have hv:aV l':=⟨hsrt,fun t ht=>by have:=h2 t (hp.mem_iff.2 ht);exact⟨this.2.2,this.1⟩⟩;refine hv.inj (fD l) fun e=>?_;rw [mM,<- Sj hp];by_cases hz:cf L e=0
 ·rw [hz];split
  ·rename_i hn;apply Classical.byContradiction;intro hc;have:=JD h1 (h3 e hn (fun h=>hc h.symm));rw [hz] at this;exact hc this
  ·rfl
 ·obtain⟨t,ht,rfl⟩:=Pp hz;rw [JD h1 ht,if_pos (h2 t ht).1,(h2 t ht).2.1]
def dD:List ai->List ai->List ai
 | [],q=>q
 | p,[]=>p
 | s::p,t::q=>if s.1.gt t.1=true then s::dD p (t::q) else if t.1.gt s.1=true then t::dD (s::p) q else if s.2+t.2=0 then dD p q else (s.1,s.2+t.2)::dD p q
 termination_by p q=>p.length+q.length
theorem mergeP_nil (p:List ai):dD p []=p:=by cases p <;> simp [dD]
theorem mQ (q:List ai):dD [] q=q:=by simp [dD]
theorem jf {e:Ex}:∀ {p q:List ai},(∀ t∈p,e.gt t.1=true)->(∀ t∈q,e.gt t.1=true)->∀ t∈dD p q,e.gt t.1=true
 | [],q,_,h=>by rw [mQ];exact h
 | s::p,[],h,_=>by rw [mergeP_nil];exact h
 | s::p,t::q,h,h'=>by
  intro u hu;unfold dD at hu;have hs:=h s (by simp);have ht:=h' t (by simp);have hp:∀ t∈p,e.gt t.1=true:=fun t ht=>h t (by simp [ht]);have hq:∀ t∈q,e.gt t.1=true:=fun t ht=>h' t (by simp [ht]);split at hu
  ·rcases List.mem_cons.1 hu with rfl|hu
   ·exact hs
   ·exact jf hp h' u hu
  ·split at hu
   ·rcases List.mem_cons.1 hu with rfl|hu
    ·exact ht
    ·exact jf h hq u hu
   ·split at hu
    ·exact jf hp hq u hu
    ·rcases List.mem_cons.1 hu with rfl|hu
     ·exact hs
     ·exact jf hp hq u hu
 termination_by p q=>p.length+q.length
theorem uh:∀ {p q:List ai},aV p->aV q->aV (dD p q)/\∀ e,cf (dD p q) e=cf p e+cf q e
 | [],q,_,h=>by rw [mQ];exact⟨h,fun e=>by rw [jd];grind⟩
 | s::p,[],h,_=>by rw [mergeP_nil];exact⟨h,fun e=>by rw [jd];grind⟩
 | s::p,t::q,h,h'=>by
  have hp:=h.tail;have hq:=h'.tail;unfold dD;split
  ·rename_i hg;obtain⟨h1,h2⟩:=uh hp h';refine⟨⟨List.pairwise_cons.2 ⟨jf (h.1.head) (fun u hu=>?_),h1.1⟩,fun u hu=>?_⟩,fun e=>?_⟩
   ·rcases List.mem_cons.1 hu with rfl|hu
    ·exact hg
    ·exact Ex.gt_trans hg (h'.1.head u hu)
   ·rcases List.mem_cons.1 hu with rfl|hu
    ·exact h.2 _ (by simp)
    ·exact h1.2 u hu
   ·rw [bG,h2,bG (l:=p)];grind
  ·split
   ·rename_i hg;obtain⟨h1,h2⟩:=uh h hq;refine⟨⟨List.pairwise_cons.2 ⟨jf (fun u hu=>?_) (h'.1.head),h1.1⟩,fun u hu=>?_⟩,fun e=>?_⟩
    ·rcases List.mem_cons.1 hu with rfl|hu
     ·exact hg
     ·exact Ex.gt_trans hg (h.1.head u hu)
    ·rcases List.mem_cons.1 hu with rfl|hu
     ·exact h'.2 _ (by simp)
     ·exact h1.2 u hu
    ·rw [bG,h2,bG (l:=q)];grind
   ·rename_i hg1 hg2
    have he:s.1=t.1:=by
     apply Classical.byContradiction;intro hne;exact hg2 (Ex.gt_total (by simpa using hg1) hne)
    obtain⟨h1,h2⟩:=uh hp hq;split
    ·rename_i hz;refine⟨h1,fun e=>?_⟩;rw [h2,bG,bG,he];grind
    ·rename_i hz;refine⟨⟨List.pairwise_cons.2 ⟨jf (h.1.head) (fun u hu=>by rw [he];exact h'.1.head u hu),h1.1⟩,fun u hu=>?_⟩,fun e=>?_⟩
     ·rcases List.mem_cons.1 hu with rfl|hu
      ·exact⟨hz,(h.2 s (by simp)).2⟩
      ·exact h1.2 u hu
     ·rw [bG,h2,bG,bG,he];grind
 termination_by p q=>p.length+q.length
theorem xN {p q:List ai} (hp:aV p) (hq:aV q):dD p q=lN p q:=by
 obtain⟨h1,h2⟩:=uh hp hq;refine h1.inj (fD _) fun e=>?_;rw [h2,lN,mM,nV];split
 ·rfl
 ·rename_i hn;rw [mZ (l:=p) (fun t ht he=>hn (by rw [<- he];exact (hp.2 t ht).2)),mZ (l:=q) (fun t ht he=>hn (by rw [<- he];exact (hq.2 t ht).2))];grind
end Q
end
section
namespace Q
theorem sH {e f g h:Ex} (h1:e=f\/e.gt f=true) (h2:g=h\/g.gt h=true) (hne:¬ (e=f/\g=h)):(e.add g).gt (f.add h)=true:=by
 rcases h1 with rfl|h1
 ·rcases h2 with rfl|h2
  ·exact absurd ⟨rfl,rfl⟩ hne
  ·rw [Ex.gt_add];exact h2
 ·rcases h2 with rfl|h2
  ·rw [Ex.add_comm e,Ex.add_comm f,Ex.gt_add];exact h1
  ·refine Ex.gt_trans (f:=e.add h) (by rw [Ex.gt_add];exact h2) ?_;rw [Ex.add_comm e,Ex.add_comm f,Ex.gt_add];exact h1
theorem EP.head_or {s:ai} {l:List ai} (h:EP (s::l)):∀ u∈s::l,s.1=u.1\/s.1.gt u.1=true:=fun u hu=>by
 rcases List.mem_cons.1 hu with rfl|hu
 ·exact .inl rfl
 ·exact .inr (h.head u hu)
theorem qc {s t:ai} {l r:List ai} (hl:EP (s::l)) (hr:EP (t::r)):cf (prods (s::l) (t::r)) (s.1.add t.1)=s.2*t.2:=by
 rw [jQ,nV,List.map_cons,bG]
 have e1:cf (r.map (mulT s)) (s.1.add t.1)=0:=mZ fun u hu=>by
  obtain⟨u',hu',rfl⟩:=List.mem_map.1 hu;exact (Ex.gt_ne (sH (.inl rfl) (.inr (hr.head u' hu')) (fun h=>Ex.gt_ne (hr.head u' hu') h.2))).symm
 have e2:cf (prods l (t::r)) (s.1.add t.1)=0:=mZ fun u hu=>by
  obtain⟨a,ha,b,hb,rfl⟩:=jZ hu;exact (Ex.gt_ne (sH (.inr (hl.head a ha)) (hr.head_or b hb) (fun h=>Ex.gt_ne (hl.head a ha) h.1))).symm
 rw [e1,e2];simp only [mulT,if_true];grind
theorem EX {p q:List ai} (hp:aV p) (hq:aV q) (h1:p≠[]) (h2:q≠[]):aQ p q≠[]:=by
 cases p with
 | nil=>exact absurd rfl h1
 | cons s l=>cases q with
  | nil=>exact absurd rfl h2
  | cons t r =>
   intro h;have hc:=mM (prods (s::l) (t::r)) (s.1.add t.1);rw [show canon (prods (s::l) (t::r))=[] from h,jd,if_pos (Ex.nat_add hp.nat.head hq.nat.head),qc hp.1 hq.1] at hc;exact je (hp.2 s (by simp)).1 (hq.2 t (by simp)).1 hc.symm
theorem CO (q:List ai):aQ [] q=[]:=rfl
theorem sI (p:List ai):aQ p []=[]:=by
 have:prods p []=[]:=by induction p with
  | nil=>rfl
  | cons s l ih=>rw [jQ,ih];rfl
 rw [aQ,this];rfl
theorem nH {p q:List ai} (hp:aV p) (hq:aV q):aQ p q=[]↔p=[]\/q=[]:=by
 constructor
 ·intro h;rcases Classical.em (p=[]) with h1|h1
  ·exact .inl h1
  ·rcases Classical.em (q=[]) with h2|h2
   ·exact .inr h2
   ·exact absurd h (EX hp hq h1 h2)
 ·rintro (rfl|rfl)
  ·exact CO _
  ·exact sI _
theorem ow (f:Ex->Rat) (r:List ai):∀ l:List ai,Lf f (prods l r)=Lf (fun e=>Lf (fun e'=>f (e.add e')) r) l
 | []=>rfl
 | s::l=>by
  rw [jQ,nU,ow f r l,nG]
  congr 1
  rw [<- jc];exact xE f (mulT s) (fun e'=>s.2*f (s.1.add e')) r fun t _=>by simp only [mulT];grind
theorem Ex.get_add (e f:Ex) (v:Nat):(e.add f).get v=e.get v+f.get v:=by rcases v with _|_|_|v <;> rfl
theorem Ex.put_add (e f:Ex) (v:Nat):(e.add f).put v 0=(e.put v 0).add (f.put v 0):=by rcases v with _|_|_|v <;> simp [Ex.add,Ex.put]
theorem yO {p q:List ai} (v:Nat):Ld (aD (prods p q) v (aG p v+aG q v)) (prods (aD p v (aG p v)) (aD q v (aG q v))):=fun f=>by
 rw [dX,ow,ow,dX];refine gK fun s hs=>?_;have h1:=dU hs v;split
 ·rename_i he;rw [dX];refine gK fun t ht=>?_;rw [Ex.get_add,Ex.put_add];by_cases h:t.1.get v=aG q v
  ·rw [if_pos h,if_pos (by omega)]
  ·rw [if_neg h,if_neg (by omega)]
 ·rename_i he;rw [gK (g:=fun _=>0) (fun t ht=>?_),Le];have h2:=dU ht v;rw [Ex.get_add,if_neg (by omega)]
theorem gL {P:Ex->Prop} {l:List ai} (h:∀ t∈l,P t.1):∀ t∈canon l,P t.1:=by
 have:∀ (l r:List ai),(∀ t∈l,P t.1)->(∀ t∈r,P t.1)->∀ t∈l.foldl ins r,P t.1:=by
  intro l
  induction l with
  | nil=>exact fun r _ hr=>hr
  | cons m l ih =>
   intro r hl hr;exact ih _ (fun t ht=>hl t (by simp [ht])) (Pm hr (hl m (by simp)))
 exact this l [] h (fun t ht=>by cases ht)
theorem aV.coeff_ne {p:List ai} (hp:aV p) (h:p≠[]) (v:Nat):aD p v (aG p v)≠[]:=by
 obtain⟨t,ht,e⟩:=kQ h hp.nat v;intro hc;have:(t.1.put v 0,t.2)∈aD p v (aG p v):=List.mem_map.2 ⟨t,List.mem_filter.2 ⟨ht,by simpa using e⟩,rfl⟩;rw [hc] at this;cases this
theorem Pq {p q:List ai} (hp:aV p) (hq:aV q) (h1:p≠[]) (h2:q≠[]) (v:Nat):aG (aQ p q) v=aG p v+aG q v:=by
 have hne:=EX hp hq h1 h2
 have nz:∀ t∈aQ p q,t.1.get v<=aG p v+aG q v:=gL (P:=fun e=>e.get v<=aG p v+aG q v) fun t ht=>by
  obtain⟨a,ha,b,hb,rfl⟩:=jZ ht;have:=dU ha v;have:=dU hb v;simp only [mulT,Ex.get_add];omega
 obtain⟨t,ht,e⟩:=kQ hne (aV.mul p q).nat v;have hle':=nz t ht
 have hc:aD (aQ p q) v (aG p v+aG q v)≠[]:=by
  intro h
  have h3:Ld (aD (aQ p q) v (aG p v+aG q v)) (prods (aD p v (aG p v)) (aD q v (aG q v))):=fun f=>by
   rw [dX,aQ,(iN (dh.prods hp.nat hq.nat)) _,<- dX];exact yO v f
  rw [h] at h3;have h4:=EX (hp.coeff v (aG p v)) (hq.coeff v (aG q v)) (hp.coeff_ne h1 v) (hq.coeff_ne h2 v);exact h4 (show canon _=[] from by rw [<- h3.canon];rfl)
 obtain⟨c,hcm⟩:=List.exists_mem_of_ne_nil _ hc;obtain⟨u,hu,-⟩:=List.mem_map.1 hcm;obtain⟨hu1,hu2⟩:=List.mem_filter.1 hu;have h5:=dU hu1 v;have h6:u.1.get v=aG p v+aG q v:=by simpa using hu2
 omega
end Q
end
section
namespace Q
theorem zF {e:Ex} {c:Rat} (he:e.nat=true) (hc:c≠0):aV [(e,c)] :=
 ⟨List.pairwise_singleton _ _,fun t ht=>by rw [List.mem_singleton.1 ht];exact⟨hc,he⟩⟩
theorem Ex.get_put_ne (e:Ex) {x y:Nat} (hx:x<4) (hy:y<4) (h:x≠y) (a:Int):(e.put x a).get y=e.get y:=by
 obtain rfl|rfl|rfl|rfl:x=0\/x=1\/x=2\/x=3:=by omega
 all_goals (obtain rfl|rfl|rfl|rfl:y=0\/y=1\/y=2\/y=3:=by omega) <;> first|rfl|exact absurd rfl h
theorem JE (p:List ai) (v:Nat) (n:Int):aG (aD p v n) v<=0:=by
 rcases (gW (fun t=>t.1.get v) (aD p v n) (-1)).2.2 with h|⟨t,ht,h⟩
 ·show (aD p v n).foldl _ _<=0;rw [h];omega
 ·show (aD p v n).foldl _ _<=0;rw [<- h];obtain⟨s,-,rfl⟩:=List.mem_map.1 ht;simp only [Ex.get_put];omega
theorem Nu (p:List ai) (v:Nat) (c:Rat):aG (vQ p v c) v<=0:=by
 have hz:∀ t∈vQ p v c,t.1.get v=0:=gL (P:=fun e=>e.get v=0) fun t ht=>by
  obtain⟨s,-,rfl⟩:=List.mem_map.1 ht;exact Ex.get_put _ _ _
 rcases (gW (fun t=>t.1.get v) (vQ p v c) (-1)).2.2 with h|⟨t,ht,h⟩
 ·show (vQ p v c).foldl _ _<=0;rw [h];omega
 ·show (vQ p v c).foldl _ _<=0;rw [<- h,hz t ht];omega
theorem aV.eval (p:List ai) (v:Nat) (c:Rat):aV (vQ p v c):=fD _
end Q
end
section
namespace Q
structure MP where
 l:List ai
 v:aV l
theorem MP.eq_of {p q:MP} (h:p.l=q.l):p=q:=by cases p;cases q;cases h;rfl
def MP.ev (x:Pt) (p:MP):Rat:=Q.ev x p.l
theorem MP.ext' {p q:MP} (h:∀ x,p.ev x=q.ev x):p=q:=MP.eq_of (kH p.v q.v h)
def MP.c (r:Rat):MP:=⟨bX r,aV.const r⟩
instance:Add MP:=⟨fun p q=>⟨lN p.l q.l,aV.add _ _⟩⟩
instance:Mul MP:=⟨fun p q=>⟨aQ p.l q.l,aV.mul _ _⟩⟩
instance:Neg MP:=⟨fun p=>⟨bY p.l (-1),p.v.scale _⟩⟩
instance:Sub MP:=⟨fun p q=>⟨dK p.l q.l,aV.sub _ _⟩⟩
instance:NatCast MP:=⟨fun n=>MP.c n⟩
instance:IntCast MP:=⟨fun n=>MP.c n⟩
instance (n:Nat):OfNat MP n:=⟨MP.c (n:Rat)⟩
instance:SMul Nat MP:=⟨fun n p=>(n:MP)*p⟩
instance:SMul Int MP:=⟨fun n p=>(n:MP)*p⟩
instance:HPow MP Nat MP:=⟨fun p n=>⟨mf p.l n,aV.pow _ _⟩⟩
theorem MP.ev_add (x:Pt) (p q:MP):(p+q).ev x=p.ev x+q.ev x:=Q.ev_add x p.v.nat q.v.nat
theorem MP.ev_mul (x:Pt) (p q:MP):(p*q).ev x=p.ev x*q.ev x:=Q.ev_mul x p.v.nat q.v.nat
theorem MP.ev_neg (x:Pt) (p:MP):(-p).ev x=- p.ev x:=by have:=Q.ev_scale x p.l (-1);show Q.ev x (bY p.l (-1))=- Q.ev x p.l;rw [this];grind
theorem MP.ev_sub (x:Pt) (p q:MP):(p-q).ev x=p.ev x-q.ev x:=Q.ev_sub x p.v.nat q.v
theorem MP.ev_c (x:Pt) (r:Rat):(MP.c r).ev x=r:=lS x r
theorem MP.ev_nat (x:Pt) (n:Nat):((n:Nat):MP).ev x=n:=lS x _
theorem MP.ev_int (x:Pt) (n:Int):((n:Int):MP).ev x=n:=lS x _
theorem MP.ev_ofNat (x:Pt) (n:Nat):(OfNat.ofNat n:MP).ev x=(n:Rat):=lS x _
theorem MP.ev_zero (x:Pt):(0:MP).ev x=0:=(lS x ((0:Nat):Rat)).trans rfl
theorem MP.ev_one (x:Pt):(1:MP).ev x=1:=(lS x ((1:Nat):Rat)).trans rfl
theorem MP.ev_pow (x:Pt) (p:MP) (n:Nat):(p ^ n).ev x=p.ev x ^ n:=Q.ev_pow x p.v.nat n
instance:Lean.Grind.CommRing MP where
 add_zero a:=MP.ext' fun x=>by rw [MP.ev_add,MP.ev_zero];grind
 add_comm a b:=MP.ext' fun x=>by rw [MP.ev_add,MP.ev_add];grind
 add_assoc a b c:=MP.ext' fun x=>by simp only [MP.ev_add];grind
 mul_assoc a b c:=MP.ext' fun x=>by simp only [MP.ev_mul];grind
 mul_one a:=MP.ext' fun x=>by rw [MP.ev_mul,MP.ev_one];grind
 one_mul a:=MP.ext' fun x=>by rw [MP.ev_mul,MP.ev_one];grind
 left_distrib a b c:=MP.ext' fun x=>by simp only [MP.ev_mul,MP.ev_add];grind
 right_distrib a b c:=MP.ext' fun x=>by simp only [MP.ev_mul,MP.ev_add];grind
 zero_mul a:=MP.ext' fun x=>by rw [MP.ev_mul,MP.ev_zero];grind
 mul_zero a:=MP.ext' fun x=>by rw [MP.ev_mul,MP.ev_zero];grind
 pow_zero a:=MP.ext' fun x=>by rw [MP.ev_pow,MP.ev_one,Rat.pow_zero]
 pow_succ a n:=MP.ext' fun x=>by rw [MP.ev_pow,MP.ev_mul,MP.ev_pow,Rat.pow_succ]
 ofNat_succ a:=MP.ext' fun x=>by
  have h:=MP.ev_ofNat x (a+1);have h2:=MP.ev_ofNat x a;rw [MP.ev_add,MP.ev_one,h,h2,Rat.natCast_add];rfl
 ofNat_eq_natCast n:=rfl
 nsmul_eq_natCast_mul n a:=rfl
 neg_add_cancel a:=MP.ext' fun x=>by rw [MP.ev_add,MP.ev_neg,MP.ev_zero];grind
 sub_eq_add_neg a b:=MP.ext' fun x=>by rw [MP.ev_add,MP.ev_neg,MP.ev_sub];grind
 neg_zsmul i a:=MP.ext' fun x=>by
  show MP.ev x (((-i:Int):MP)*a)=MP.ev x (-((i:MP)*a));rw [MP.ev_mul,MP.ev_neg,MP.ev_mul,MP.ev_int,MP.ev_int,Rat.intCast_neg];grind
 zsmul_natCast_eq_nsmul n a:=MP.ext' fun x=>by
  show MP.ev x (((n:Int):MP)*a)=MP.ev x ((n:MP)*a);rw [MP.ev_mul,MP.ev_mul,MP.ev_int,MP.ev_nat,Rat.intCast_natCast]
 intCast_ofNat n:=MP.ext' fun x=>by
  have h:=MP.ev_ofNat x n;rw [h];exact (MP.ev_int x _).trans (Rat.intCast_natCast n)
 intCast_neg i:=MP.ext' fun x=>by rw [MP.ev_int,MP.ev_neg,MP.ev_int,Rat.intCast_neg]
 mul_comm a b:=MP.ext' fun x=>by rw [MP.ev_mul,MP.ev_mul];grind
theorem MP.zero_iff {p:MP}:p=0↔p.l=[]:=⟨fun h=>by rw [h];rfl,fun h=>MP.eq_of (by rw [h];rfl)⟩
theorem MP.mul_eq_zero {p q:MP}:p*q=0↔p=0\/q=0:=by
 rw [MP.zero_iff,MP.zero_iff,MP.zero_iff];exact nH p.v q.v
theorem MP.mul_ne {p q:MP} (hp:p≠0) (hq:q≠0):p*q≠0:=fun h=>(MP.mul_eq_zero.1 h).elim hp hq
theorem MP.cancel {p q r:MP} (hp:p≠0) (h:p*q=p*r):q=r:=by
 have:p*(q-r)=0:=by grind
 rcases MP.mul_eq_zero.1 this with h|h
 ·exact absurd h hp
 ·grind
theorem MP.one_ne:(1:MP)≠0:=fun h=>by have:=MP.zero_iff.1 h;cases this
def MP.deg (v:Nat) (p:MP):Int:=aG p.l v
def MP.co (v n:Nat) (p:MP):MP:=⟨aD p.l v n,p.v.coeff v n⟩
def MP.fr (v:Nat) (p:MP):Prop:=p.deg v<=0
theorem MP.deg_mul {p q:MP} (hp:p≠0) (hq:q≠0) (v:Nat):(p*q).deg v=p.deg v+q.deg v :=
 Pq p.v q.v (fun h=>hp (MP.zero_iff.2 h)) (fun h=>hq (MP.zero_iff.2 h)) v
theorem MP.deg_ge (v:Nat) (p:MP):-1<=p.deg v:=ug _ _
theorem MP.deg_pos {p:MP} (hp:p≠0) (v:Nat):0<=p.deg v:=by
 obtain⟨t,ht,e⟩:=kQ (fun h=>hp (MP.zero_iff.2 h)) p.v.nat v;show 0<=aG p.l v;rw [<- e];exact Ex.nat_get (p.v.nat t ht) v
theorem MP.deg_zero (v:Nat):(0:MP).deg v=-1:=rfl
theorem MP.fr_get {p:MP} {v:Nat} (h:p.fr v) {t:ai} (ht:t∈p.l):t.1.get v=0:=by
 have h1:=dU ht v;have h2:=Ex.nat_get (p.v.nat t ht) v;have h3:aG p.l v<=0:=h;omega
theorem TY {p:MP} {v:Nat} (h:∀ t∈p.l,t.1.get v=0):p.fr v:=by
 rcases (gW (fun t=>t.1.get v) p.l (-1)).2.2 with e|⟨t,ht,e⟩
 ·show aG p.l v<=0;unfold aG;rw [e];omega
 ·show aG p.l v<=0;unfold aG;rw [<- e,h t ht];omega
theorem MP.co_fr (v n:Nat) (p:MP):(p.co v n).fr v:=JE _ _ _
theorem Nv {p q:MP} (h:Ld p.l q.l):p=q:=MP.eq_of (p.v.eqv_inj q.v h)
theorem MP.lf_add (f:Ex->Rat) (p q:MP):Lf f (p+q).l=Lf f p.l+Lf f q.l:=by
 have:=iN (p.v.nat.append q.v.nat) f;show Lf f (canon (p.l++q.l))=_;rw [this,nU]
theorem MP.lf_mul (f:Ex->Rat) (p q:MP):Lf f (p*q).l=Lf (fun e=>Lf (fun e'=>f (e.add e')) q.l) p.l:=by
 have:=iN (p.v.nat.prods q.v.nat) f;show Lf f (canon (prods p.l q.l))=_;rw [this,ow]
theorem MP.lf_neg (f:Ex->Rat) (p:MP):Lf f (-p).l=- Lf f p.l:=by
 have h:p+-p=0:=by grind
 have:=MP.lf_add f p (-p);rw [h] at this;have e:Lf f (0:MP).l=0:=rfl;rw [e] at this;grind
theorem MP.co_add (v n:Nat) (p q:MP):(p+q).co v n=p.co v n+q.co v n:=Nv fun f=>by
 rw [MP.lf_add];show Lf f (aD _ v n)=Lf f (aD _ v n)+Lf f (aD _ v n);rw [dX,dX,dX,MP.lf_add]
theorem MP.co_neg (v n:Nat) (p:MP):(-p).co v n=- p.co v n:=Nv fun f=>by
 rw [MP.lf_neg];show Lf f (aD _ v n)=- Lf f (aD _ v n);rw [dX,dX,MP.lf_neg]
theorem MP.co_sub (v n:Nat) (p q:MP):(p-q).co v n=p.co v n-q.co v n:=by
 have h:p-q=p+-q:=by grind
 rw [h,MP.co_add,MP.co_neg];grind
theorem MP.co_mul_fr {d:MP} {v:Nat} (hd:d.fr v) (n:Nat) (p:MP):(d*p).co v n=d*p.co v n:=Nv fun f=>by
 rw [MP.lf_mul];show Lf f (aD _ v n)=_;rw [dX,MP.lf_mul];refine gK fun t ht=>?_;show _=Lf _ (aD _ v n);rw [dX];refine gK fun s _=>?_;have e:=MP.fr_get hd ht;rw [Ex.get_add,e,Ex.put_add,show t.1.put v 0=t.1 by rw [<- e,Ex.put_get],Int.zero_add]
def MP.xk (v k:Nat):MP:=⟨[(e0.put v k,1)],zF (Ex.put_nat rfl v (by omega)) (by decide)⟩
theorem AL (v:Nat):Ex.get e0 v=0:=by rcases v with _|_|_|v <;> rfl
theorem MP.xk_ne (v k:Nat):MP.xk v k≠0:=fun h=>by have:=MP.zero_iff.1 h;cases this
theorem Ex.add_put0 (e:Ex) (v:Nat) (k:Int):((e0.put v k).add e)=e.put v (e.get v+k):=by
 rcases v with _|_|_|v <;> simp [Ex.add,Ex.put,Ex.get,Int.add_comm]
theorem MP.co_xk (v k n:Nat) (p:MP):(MP.xk v k*p).co v n=if k<=n then p.co v (n-k) else 0:=Nv fun f=>by
 show Lf f (aD _ v n)=_;rw [dX,MP.lf_mul];show Lf _ [((e0.put v k),(1:Rat))]=_;rw [nG,JA];split
 ·rename_i h;show _=Lf f (aD _ v _);rw [dX]
  have:Lf (fun e'=>if ((e0.put v ↑k).add e').get v=(n:Int) then f (((e0.put v ↑k).add e').put v 0) else 0) p.l=Lf (fun e=>if e.get v=((n-k:Nat):Int) then f (e.put v 0) else 0) p.l:=gK fun t _=>by
   rw [Ex.add_put0,Ex.get_put,Ex.put_put];by_cases hc:t.1.get v=((n-k:Nat):Int)
   ·rw [if_pos hc,if_pos (by omega)]
   ·rw [if_neg hc,if_neg (by omega)]
  rw [this];grind
 ·rename_i h
  have:Lf (fun e'=>if ((e0.put v ↑k).add e').get v=(n:Int) then f (((e0.put v ↑k).add e').put v 0) else 0) p.l=Lf (fun _=>0) p.l:=gK fun t ht=>by
   rw [Ex.add_put0,Ex.get_put];have:=Ex.nat_get (p.v.nat t ht) v;rw [if_neg (by omega)]
  rw [this,Le];show _=(0:Rat);grind
theorem MP.deg_xk (v k:Nat):(MP.xk v k).deg v=k:=by
 show max (-1) ((e0.put v k).get v)=k;rw [Ex.get_put];omega
theorem MP.co_above {p:MP} {v n:Nat} (h:p.deg v<n):p.co v n=0:=by
 rw [MP.zero_iff];show (p.l.filter fun t=>t.1.get v=(n:Int)).map _=[];rw [List.map_eq_nil_iff,List.filter_eq_nil_iff];intro t ht;have:=dU ht v;have h':aG p.l v<n:=h;simp;omega
theorem MP.deg_le_of {p:MP} {v:Nat} {k:Int} (hk:-1<=k) (h:∀ n:Nat,k<n->p.co v n=0):p.deg v<=k:=by
 rcases Int.lt_or_le k (p.deg v) with hlt|nz
 ·exfalso
  have hne:p.l≠[]:=fun e=>by
   have:p.deg v=-1:=by show aG p.l v=-1;rw [e];rfl
   omega
  obtain⟨t,ht,e⟩:=kQ hne p.v.nat v;have h0:=Ex.nat_get (p.v.nat t ht) v;have hz:=h (t.1.get v).toNat (by rw [e];show k<((aG p.l v).toNat:Int);rw [Int.toNat_of_nonneg (by rw [<- e];exact h0)];exact hlt);rw [MP.zero_iff] at hz;have hz:(p.l.filter fun u=>u.1.get v=((t.1.get v).toNat:Int)).map _=[]:=hz;rw [List.map_eq_nil_iff,List.filter_eq_nil_iff] at hz;exact hz t ht (by simp;omega)
 ·exact nz
def MP.lc (v:Nat) (p:MP):MP:=p.co v (p.deg v).toNat
theorem MP.lc_fr (v:Nat) (p:MP):(p.lc v).fr v:=MP.co_fr _ _ _
theorem MP.lc_ne {p:MP} (hp:p≠0) (v:Nat):p.lc v≠0:=fun h=>by
 rw [MP.zero_iff] at h;have h2:=p.v.coeff_ne (fun e=>hp (MP.zero_iff.2 e)) v;have h3:0<=aG p.l v:=MP.deg_pos hp v;apply h2;have:aD p.l v ((aG p.l v).toNat:Int)=[]:=h;rwa [Int.toNat_of_nonneg h3] at this
def bZ (f:Nat->MP):Nat->MP
 | 0=>0
 | n+1=>bZ f n+f n
theorem EY (x:Pt) (f:Nat->MP):∀ n,(bZ f n).ev x=bf (fun i=>(f i).ev x) n
 | 0=>MP.ev_zero x
 | n+1=>by rw [bZ,MP.ev_add,EY x f n];rfl
theorem MP.ev_xk (x:Pt) (v k:Nat):(MP.xk v k).ev x=x.get v ^ k:=by
 show (1:Rat)*kP x (e0.put v k)+0=_
 have:kP x (e0.put v k)=x.get v ^ k:=by
  rcases v with _|_|_|v <;> simp [kP,Ex.put,Pt.get,Rat.pow_zero,Rat.one_mul,Rat.mul_one]
 rw [this];grind
theorem MP.split (v:Nat) (p:MP) {N:Nat} (h:p.deg v<N):p=bZ (fun n=>p.co v n*MP.xk v n) N:=MP.ext' fun x=>by
 rw [EY];have:=AJ x v (x.get v) N p.v.nat (fun t ht=>by have:=dU ht v;have h':aG p.l v<N:=h;omega);rw [Pt.put_get] at this;show Q.ev x p.l=_;rw [this];refine dC fun i _=>?_;rw [MP.ev_mul,MP.ev_xk];rfl
instance:Dvd MP:=⟨fun a b=>∃ c,b=a*c⟩
theorem MP.dvd_refl (a:MP):a∣a:=⟨1,by grind⟩
theorem MP.dvd_trans {a b c:MP} (h:a∣b) (h':b∣c):a∣c:=by
 obtain⟨x,rfl⟩:=h;obtain⟨y,rfl⟩:=h';exact⟨x*y,by grind⟩
theorem MP.dvd_mul_right (a b:MP):a∣a*b:=⟨b,rfl⟩
theorem MP.dvd_mul_left (a b:MP):a∣b*a:=⟨b,by grind⟩
theorem MP.dvd_zero (a:MP):a∣0:=⟨0,by grind⟩
theorem MP.zero_dvd {a:MP} (h:(0:MP)∣a):a=0:=by obtain⟨x,rfl⟩:=h;grind
theorem MP.dvd_add {a b c:MP} (h:a∣b) (h':a∣c):a∣b+c:=by
 obtain⟨x,rfl⟩:=h;obtain⟨y,rfl⟩:=h';exact⟨x+y,by grind⟩
theorem MP.dvd_sub {a b c:MP} (h:a∣b) (h':a∣c):a∣b-c:=by
 obtain⟨x,rfl⟩:=h;obtain⟨y,rfl⟩:=h';exact⟨x - y,by grind⟩
theorem MP.dvd_mul_of {a b:MP} (h:a∣b) (c:MP):a∣b*c:=by obtain⟨x,rfl⟩:=h;exact⟨x*c,by grind⟩
theorem MP.dvd_mul_of' {a b:MP} (h:a∣b) (c:MP):a∣c*b:=by obtain⟨x,rfl⟩:=h;exact⟨c*x,by grind⟩
theorem MP.mul_dvd {a b c d:MP} (h:a∣b) (h':c∣d):a*c∣b*d:=by
 obtain⟨x,rfl⟩:=h;obtain⟨y,rfl⟩:=h';exact⟨x*y,by grind⟩
theorem MP.dvd_cancel {a b c:MP} (ha:a≠0) (h:a*b∣a*c):b∣c:=by
 obtain⟨x,e⟩:=h;exact⟨x,MP.cancel ha (by rw [e];grind)⟩
theorem MP.dvd_ne {a b:MP} (hb:b≠0) (h:a∣b):a≠0:=fun e=>hb (MP.zero_dvd (e ▸ h))
theorem MP.dvd_deg {a b:MP} (hb:b≠0) (h:a∣b) (v:Nat):a.deg v<=b.deg v:=by
 obtain⟨x,rfl⟩:=h;have ha:a≠0:=fun e=>hb (by rw [e];grind);have hx:x≠0:=fun e=>hb (by rw [e];grind);have:=MP.deg_pos hx v;rw [MP.deg_mul ha hx];omega
theorem MP.dvd_msum {a:MP} {f:Nat->MP}:∀ {n:Nat},(∀ i,i<n->a∣f i)->a∣bZ f n
 | 0,_=>MP.dvd_zero a
 | n+1,h=>MP.dvd_add (MP.dvd_msum fun i hi=>h i (by omega)) (h n (by omega))
theorem MP.dvd_iff_co {d:MP} {v:Nat} (hd:d.fr v) (p:MP):d∣p↔∀ n,d∣p.co v n:=by
 constructor
 ·rintro⟨q,rfl⟩ n;rw [MP.co_mul_fr hd];exact MP.dvd_mul_right _ _
 ·intro h;rw [MP.split v p (N:=(p.deg v).toNat+1) (by have:=MP.deg_ge v p;omega)];exact MP.dvd_msum fun i _=>MP.dvd_mul_of (h i) _
def MP.unit (a:MP):Prop:=a∣1
theorem MP.unit_dvd {a:MP} (h:a.unit) (b:MP):a∣b:=by obtain⟨x,e⟩:=h;exact⟨x*b,by grind⟩
theorem MP.unit_of_dvd {a b:MP} (h:a∣b) (hb:b.unit):a.unit:=MP.dvd_trans h hb
theorem MP.unit_one:(1:MP).unit:=MP.dvd_refl 1
theorem MP.unit_cancel {a u:MP} (ha:a≠0) (h:a*u∣a):u.unit:=by
 refine MP.dvd_cancel ha (c:=1) ?_;have e:a*1=a:=by grind
 rw [e];exact h
end Q
end
