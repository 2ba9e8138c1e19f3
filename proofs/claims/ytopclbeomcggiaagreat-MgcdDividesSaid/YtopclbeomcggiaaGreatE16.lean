/- Polynomials as lists of terms: validity, coefficients, the polynomial of a list. No program in sight. Polynomials: their values at points determine them. No program in sight. Polynomials: sizes, products. No program in sight. Polynomials: the operations on lists of terms. No program in sight. Polynomials: what collecting gives; merging. No program in sight. Plain laws of the polynomials: they form a commutative ring without divisors of zero; degrees add up. Plain laws of the polynomials: powers, derivatives, coefficients, substitution. Polynomials as a commutative ring without divisors of zero: degrees and coefficients by one variable. No program in sight. -/
set_option linter.unusedVariables false
set_option linter.unusedSimpArgs false
set_option maxHeartbeats 16000000
set_option maxRecDepth 100000
section
namespace Q
abbrev Ex:=Int × Int × Int × Int
def Ex.get (e:Ex) (v:Nat):Int:=match v with|0=>e.1|1=>e.2.1|2=>e.2.2.1|_=>e.2.2.2
def Ex.put (e:Ex) (v:Nat) (x:Int):Ex:=match v with|0=>(x,e.2.1,e.2.2.1,e.2.2.2)|1=>(e.1,x,e.2.2.1,e.2.2.2)|2=>(e.1,e.2.1,x,e.2.2.2)|_=>(e.1,e.2.1,e.2.2.1,x)
def Ex.add (e f:Ex):Ex:=(e.1+f.1,e.2.1+f.2.1,e.2.2.1+f.2.2.1,e.2.2.2+f.2.2.2)
def Ex.sub (e f:Ex):Ex:=(e.1-f.1,e.2.1-f.2.1,e.2.2.1-f.2.2.1,e.2.2.2-f.2.2.2)
def Ex.nat (e:Ex):Bool:=decide (0<=e.1/\0<=e.2.1/\0<=e.2.2.1/\0<=e.2.2.2)
def Ex.gt (e f:Ex):Bool:=decide (f.2.2.2<e.2.2.2\/f.2.2.2=e.2.2.2/\(f.2.2.1<e.2.2.1\/f.2.2.1=e.2.2.1/\(f.2.1<e.2.1\/f.2.1=e.2.1/\f.1<e.1)))
theorem Ex.nat_iff {e:Ex}:e.nat=true↔0<=e.1/\0<=e.2.1/\0<=e.2.2.1/\0<=e.2.2.2:=decide_eq_true_iff
theorem Ex.gt_iff {e f:Ex}:e.gt f=true↔(f.2.2.2<e.2.2.2\/f.2.2.2=e.2.2.2/\(f.2.2.1<e.2.2.1\/f.2.2.1=e.2.2.1/\(f.2.1<e.2.1\/f.2.1=e.2.1/\f.1<e.1))):=decide_eq_true_iff
theorem Ex.ext' {e f:Ex} (h1:e.1=f.1) (h2:e.2.1=f.2.1) (h3:e.2.2.1=f.2.2.1) (h4:e.2.2.2=f.2.2.2):e=f:=by
 obtain⟨a,b,c,d⟩:=e;obtain⟨a',b',c',d'⟩:=f;simp_all
theorem Ex.gt_irrefl (e:Ex):e.gt e=false:=by simp [Ex.gt]
theorem Ex.gt_trans {e f g:Ex} (h1:e.gt f=true) (h2:f.gt g=true):e.gt g=true:=by
 simp only [Ex.gt,decide_eq_true_eq] at *;omega
theorem Ex.gt_ne {e f:Ex} (h:e.gt f=true):e≠f:=by rintro rfl;rw [Ex.gt_irrefl] at h;cases h
theorem Ex.gt_asymm {e f:Ex} (h:e.gt f=true):f.gt e=false:=by
 cases hf:f.gt e
 ·rfl
 ·have:=Ex.gt_trans h hf;rw [Ex.gt_irrefl] at this;cases this
theorem Ex.gt_total {e f:Ex} (h:e.gt f=false) (hne:e≠f):f.gt e=true:=by
 obtain⟨a,b,c,d⟩:=e;obtain⟨a',b',c',d'⟩:=f;simp only [Ex.gt,decide_eq_true_eq,decide_eq_false_iff_not] at *;simp only [ne_eq,Prod.mk.injEq] at hne;omega
theorem Ex.add_comm (e f:Ex):e.add f=f.add e:=by simp only [Ex.add];refine Ex.ext' ?_ ?_ ?_ ?_ <;> simp only <;> omega
theorem Ex.zero_add (e:Ex):Ex.add (0,0,0,0) e=e:=by simp [Ex.add]
theorem Ex.gt_add {e f:Ex} (g:Ex):(g.add e).gt (g.add f)=e.gt f:=by
 rw [Bool.eq_iff_iff,Ex.gt_iff,Ex.gt_iff];simp only [Ex.add];omega
theorem Ex.nat_add {e f:Ex} (h:e.nat=true) (h':f.nat=true):(e.add f).nat=true:=by
 rw [Ex.nat_iff] at *;simp only [Ex.add];omega
theorem Ex.nat_get {e:Ex} (h:e.nat=true) (v:Nat):0<=e.get v:=by
 simp only [Ex.nat,decide_eq_true_eq] at h;unfold Ex.get;split <;> omega
abbrev Trm:=Ex × Rat
def Srt (l:List Trm):Prop:=l.Pairwise (fun s t=>s.1.gt t.1=true)
def Vld (l:List Trm):Prop:=Srt l/\∀ t∈l,t.2≠0/\t.1.nat=true
def Lf (f:Ex->Rat):List Trm->Rat
|[]=>0
|t::l=>t.2*f t.1+Lf f l
def cf (l:List Trm) (e:Ex):Rat:=Lf (fun x=>if x=e then 1 else 0) l
def Eqv (l r:List Trm):Prop:=∀ f,Lf f l=Lf f r
theorem Eqv.refl (l:List Trm):Eqv l l:=fun _=>rfl
theorem Lf_nil (f:Ex->Rat):Lf f []=0:=rfl
theorem Lf_cons (f:Ex->Rat) (t:Trm) (l:List Trm):Lf f (t::l)=t.2*f t.1+Lf f l:=rfl
theorem Lf_append (f:Ex->Rat) (l r:List Trm):Lf f (l++r)=Lf f l+Lf f r:=by
 induction l with
|nil=>simp only [List.nil_append,Lf];grind
|cons t l ih=>simp only [List.cons_append,Lf,ih];grind
theorem Lf_smul (f:Ex->Rat) (c:Rat) (l:List Trm):Lf (fun e=>c*f e) l=c*Lf f l:=by
 induction l with
|nil=>simp [Lf]
|cons t l ih=>simp only [Lf,ih];grind
theorem Lf_zero (l:List Trm):Lf (fun _=>0) l=0:=by
 induction l with
|nil=>rfl
|cons t l ih=>simp only [Lf,ih];grind
theorem Lf_congr {f g:Ex->Rat} {l:List Trm} (h:∀ t∈l,f t.1=g t.1):Lf f l=Lf g l:=by
 induction l with
|nil=>rfl
|cons t l ih=>simp only [Lf,h t (by simp),ih (fun s hs=>h s (by simp [hs]))]
theorem Lf_map (f:Ex->Rat) (g:Trm->Trm) (k:Ex->Rat) (l:List Trm) (h:∀ t∈l,(g t).2*f (g t).1=t.2*k t.1):Lf f (l.map g)=Lf k l:=by
 induction l with
|nil=>rfl
|cons t l ih=>simp only [List.map_cons,Lf,h t (by simp),ih (fun s hs=>h s (by simp [hs]))]
theorem Lf_filter (f:Ex->Rat) (e:Ex) (l:List Trm):Lf f l=cf l e*f e+Lf f (l.filter (fun t=>t.1 != e)):=by
 induction l with
|nil=>simp only [Lf,cf,List.filter_nil];grind
|cons t l ih =>
  unfold cf at *;by_cases h:t.1=e
  ·subst h;simp [Lf,ih];grind
  ·have h1:(t.1 != e)=true:=bne_iff_ne.2 h;simp [Lf,h,ih,h1];grind
theorem cf_filter (e e':Ex) (l:List Trm):cf (l.filter (fun t=>t.1 != e)) e'=if e'=e then 0 else cf l e':=by
 induction l with
|nil=>simp [cf,Lf]
|cons t l ih =>
  unfold cf at *;by_cases h:t.1=e
  ·subst h;simp only [List.filter_cons,bne_self_eq_false,Bool.false_eq_true,if_false,ih,Lf];split
   ·rfl
   ·rename_i h;rw [if_neg (Ne.symm h)];grind
  ·have h1:(t.1 != e)=true:=bne_iff_ne.2 h;simp only [List.filter_cons,h1,if_true,Lf,ih];split
   ·subst e';rw [if_neg h];grind
   ·grind
theorem zero_of_cf:∀ (n:Nat) (l:List Trm),l.length<=n->(∀ e,cf l e=0)->∀ f,Lf f l=0
|_,[],_,_,_=>rfl
|0,_::_,h,_,_=>by simp at h
|n+1,t::l,hl,h,f=>by
  rw [Lf_filter f t.1,h,zero_of_cf n _ ?_ ?_]
  ·grind
  ·have:((t::l).filter (fun s=>s.1 != t.1)).length<=l.length:=by
    simp only [List.filter_cons,bne_self_eq_false,Bool.false_eq_true,if_false];exact List.length_filter_le _ _
   simp at hl;omega
  ·intro e;rw [cf_filter];split
   ·rfl
   ·exact h e
theorem cf_append (l r:List Trm) (e:Ex):cf (l++r) e=cf l e+cf r e:=Lf_append _ _ _
def negT (l:List Trm):List Trm:=l.map (fun t=>(t.1,-t.2))
theorem Lf_neg (f:Ex->Rat) (l:List Trm):Lf f (negT l)=- Lf f l:=by
 induction l with
|nil=>simp [Lf,negT]
|cons t l ih=>simp only [negT,List.map_cons,Lf] at *;grind
theorem eqv_of_cf {l r:List Trm} (h:∀ e,cf l e=cf r e):Eqv l r:=fun f=>by
 have:=zero_of_cf _ (l++negT r) (Nat.le_refl _) (fun e=>by rw [cf_append];have:=h e;unfold cf at *;rw [Lf_neg];grind) f;rw [Lf_append,Lf_neg] at this;grind
theorem Eqv.cf {l r:List Trm} (h:Eqv l r) (e:Ex):cf l e=cf r e:=h _
theorem cf_nil (e:Ex):cf [] e=0:=rfl
theorem cf_cons (t:Trm) (l:List Trm) (e:Ex):cf (t::l) e=(if t.1=e then t.2 else 0)+cf l e:=by
 simp only [cf,Lf];split <;> grind
theorem cf_out {l:List Trm} {e:Ex} (h:∀ t∈l,t.1≠e):cf l e=0:=by
 induction l with
|nil=>rfl
|cons t l ih=>rw [cf_cons,ih (fun s hs=>h s (by simp [hs])),if_neg (h t (by simp))];grind
theorem Srt.tail {t:Trm} {l:List Trm} (h:Srt (t::l)):Srt l:=(List.pairwise_cons.1 h).2
theorem Srt.head {t:Trm} {l:List Trm} (h:Srt (t::l)):∀ s∈l,t.1.gt s.1=true:=(List.pairwise_cons.1 h).1
theorem Vld.nil:Vld []:=⟨List.Pairwise.nil,fun _ h=>by cases h⟩
theorem Vld.tail {t:Trm} {l:List Trm} (h:Vld (t::l)):Vld l:=⟨h.1.tail,fun s hs=>h.2 s (by simp [hs])⟩
theorem Vld.cf_head {t:Trm} {l:List Trm} (h:Vld (t::l)):cf (t::l) t.1=t.2:=by
 rw [cf_cons,if_pos rfl,cf_out (fun s hs=>(Ex.gt_ne (h.1.head s hs)).symm)];grind
theorem Vld.cf_top {t:Trm} {l:List Trm} (h:Vld (t::l)) {e:Ex} (he:e.gt t.1=true):cf (t::l) e=0:=by
 refine cf_out fun s hs=>?_;rcases List.mem_cons.1 hs with rfl|hs
 ·exact (Ex.gt_ne he).symm
 ·exact (Ex.gt_ne (Ex.gt_trans he (h.1.head s hs))).symm
theorem Vld.inj:∀ {l r:List Trm},Vld l->Vld r->(∀ e,cf l e=cf r e)->l=r
|[],[],_,_,_=>rfl
|[],t::r,_,hr,h=>absurd ((hr.cf_head).symm.trans (h t.1).symm) (hr.2 t (by simp)).1
|t::l,[],hl,_,h=>absurd ((hl.cf_head).symm.trans (h t.1)) (hl.2 t (by simp)).1
|t::l,s::r,hl,hr,h=>by
  have he:t.1=s.1:=by
   rcases hc:t.1.gt s.1 with _|_
   ·by_cases hne:t.1=s.1
    ·exact hne
    ·have hc':=Ex.gt_total hc hne;exact absurd (by rw [<- hr.cf_head,<- h];exact hl.cf_top hc') (hr.2 s (by simp)).1
   ·exact absurd (by rw [<- hl.cf_head,h];exact hr.cf_top hc) (hl.2 t (by simp)).1
  have h2:t.2=s.2:=by rw [<- hl.cf_head,<- hr.cf_head,h,he]
  have ht:t=s:=Prod.ext he h2;subst ht;rw [Vld.inj hl.tail hr.tail fun e=>?_];have:=h e;rw [cf_cons,cf_cons] at this;grind
theorem Vld.eqv_inj {l r:List Trm} (hl:Vld l) (hr:Vld r) (h:Eqv l r):l=r:=hl.inj hr h.cf
def ins:List Trm->Trm->List Trm
|[],m=>if m.2≠0/\m.1.nat=true then [m] else []
|t::r,m=>if t.1.gt m.1 then t::ins r m else if t.1=m.1 then (if m.2+t.2≠0/\m.1.nat=true then (m.1,m.2+t.2)::r else r) else if m.2≠0/\m.1.nat=true then m::t::r else t::r
theorem ins_mem {l:List Trm} {m s:Trm} (h:s∈ins l m):s.1=m.1\/s∈l:=by
 induction l with
|nil=>unfold ins at h;split at h <;> simp at h;exact .inl (by rw [h])
|cons t r ih =>
  unfold ins at h;split at h
  ·rcases List.mem_cons.1 h with rfl|h
   ·exact .inr (by simp)
   ·exact (ih h).imp id (fun h=>by simp [h])
  ·split at h
   ·split at h
    ·rcases List.mem_cons.1 h with rfl|h
     ·exact .inl rfl
     ·exact .inr (by simp [h])
    ·exact .inr (by simp [h])
   ·split at h
    ·rcases List.mem_cons.1 h with rfl|h
     ·exact .inl rfl
     ·exact .inr h
    ·exact .inr h
theorem Vld.ins {l:List Trm} {m:Trm} (h:Vld l):Vld (ins l m):=by
 induction l with
|nil =>
  unfold Q.ins;split
  ·rename_i h;exact⟨List.pairwise_singleton _ _,fun s hs=>by simp at hs;subst hs;exact h⟩
  ·exact Vld.nil
|cons t r ih =>
  unfold Q.ins;split
  ·rename_i hg;refine⟨List.pairwise_cons.2 ⟨fun s hs=>?_,(ih h.tail).1⟩,fun s hs=>?_⟩
   ·rcases ins_mem hs with e|hs
    ·rw [e];exact hg
    ·exact h.1.head s hs
   ·rcases List.mem_cons.1 hs with rfl|hs
    ·exact h.2 _ (by simp)
    ·exact (ih h.tail).2 s hs
  ·rename_i hg;split
   ·rename_i he;split
    ·rename_i hc;refine⟨List.pairwise_cons.2 ⟨fun s hs=>?_,h.1.tail⟩,fun s hs=>?_⟩
     ·have:=h.1.head s hs;rw [he] at this;exact this
     ·rcases List.mem_cons.1 hs with rfl|hs
      ·exact hc
      ·exact h.2 s (by simp [hs])
    ·exact h.tail
   ·rename_i hne;split
    ·rename_i hc;have hg':=Ex.gt_total (by simpa using hg) hne;refine⟨List.pairwise_cons.2 ⟨fun s hs=>?_,h.1⟩,fun s hs=>?_⟩
     ·rcases List.mem_cons.1 hs with rfl|hs
      ·exact hg'
      ·exact Ex.gt_trans hg' (h.1.head s hs)
     ·rcases List.mem_cons.1 hs with rfl|hs
      ·exact hc
      ·exact h.2 s hs
    ·exact h
theorem cf_ins {l:List Trm} {m:Trm} (h:Vld l) (e:Ex):cf (ins l m) e=cf l e+if m.1.nat=true/\m.1=e then m.2 else 0:=by
 induction l with
|nil=>unfold ins;split <;> simp only [cf_cons,cf_nil] <;> grind
|cons t r ih =>
  unfold ins;split
  ·rw [cf_cons,ih h.tail,cf_cons];grind
  ·split
   ·rename_i he;have:=(h.2 t (by simp)).2;split <;> simp only [cf_cons] <;> grind
   ·split <;> simp only [cf_cons] <;> grind
def canon (l:List Trm):List Trm:=l.foldl ins []
theorem foldl_ins {l r:List Trm} (h:Vld r):Vld (l.foldl ins r)/\∀ e,cf (l.foldl ins r) e=cf r e+if e.nat=true then cf l e else 0:=by
 induction l generalizing r with
|nil=>exact⟨h,fun e=>by simp only [List.foldl_nil,cf_nil];split <;> grind⟩
|cons t l ih =>
  obtain⟨h1,h2⟩:=ih (h.ins (m:=t));refine⟨h1,fun e=>?_⟩;rw [List.foldl_cons,h2,cf_ins h,cf_cons];grind
theorem canon_val (l:List Trm):Vld (canon l):=(foldl_ins Vld.nil).1
theorem cf_canon (l:List Trm) (e:Ex):cf (canon l) e=if e.nat=true then cf l e else 0:=by
 have:=(foldl_ins (l:=l) Vld.nil).2 e;rw [cf_nil] at this;unfold canon;rw [this];grind
def NatL (l:List Trm):Prop:=∀ t∈l,t.1.nat=true
theorem canon_eqv {l:List Trm} (h:NatL l):Eqv (canon l) l:=eqv_of_cf fun e=>by
 rw [cf_canon];split
 ·rfl
 ·rename_i hn;exact (cf_out fun t ht he=>hn (by rw [<- he];exact h t ht)).symm
theorem canon_of {l r:List Trm} (h:NatL l) (hr:Vld r) (he:Eqv r l):canon l=r:=(canon_val l).inj hr fun e=>by rw [(canon_eqv h).cf,he.cf]
theorem Vld.nat {l:List Trm} (h:Vld l):NatL l:=fun t ht=>(h.2 t ht).2
theorem canon_id {l:List Trm} (h:Vld l):canon l=l:=canon_of h.nat h (Eqv.refl _)
theorem canon_congr {l r:List Trm} (h:∀ e,e.nat=true->cf l e=cf r e):canon l=canon r:=(canon_val l).inj (canon_val r) fun e=>by
 rw [cf_canon,cf_canon];split
 ·rename_i he;exact h e he
 ·rfl
theorem Eqv.canon {l r:List Trm} (h:Eqv l r):canon l=canon r:=canon_congr fun e _=>h.cf e
end Q
end
section
namespace Q
abbrev Pt:=Rat × Rat × Rat × Rat
def Pt.get (x:Pt) (v:Nat):Rat:=match v with|0=>x.1|1=>x.2.1|2=>x.2.2.1|_=>x.2.2.2
def Pt.put (x:Pt) (v:Nat) (c:Rat):Pt:=match v with|0=>(c,x.2.1,x.2.2.1,x.2.2.2)|1=>(x.1,c,x.2.2.1,x.2.2.2)|2=>(x.1,x.2.1,c,x.2.2.2)|_=>(x.1,x.2.1,x.2.2.1,c)
def mon (x:Pt) (e:Ex):Rat:=x.1 ^ e.1.toNat * x.2.1 ^ e.2.1.toNat * x.2.2.1 ^ e.2.2.1.toNat * x.2.2.2 ^ e.2.2.2.toNat
def ev (x:Pt) (l:List Trm):Rat:=Lf (mon x) l
theorem ev_nil (x:Pt):ev x []=0:=rfl
theorem ev_cons (x:Pt) (t:Trm) (l:List Trm):ev x (t::l)=t.2*mon x t.1+ev x l:=rfl
theorem ev_append (x:Pt) (l r:List Trm):ev x (l++r)=ev x l+ev x r:=Lf_append _ _ _
theorem ev_canon {l:List Trm} (h:NatL l) (x:Pt):ev x (canon l)=ev x l:=(canon_eqv h) _
theorem rpow_add (x:Rat) (m n:Nat):x ^ (m+n)=x ^ m*x ^ n:=by
 induction n with
|zero=>simp [Rat.pow_zero]
|succ n ih=>rw [<- Nat.add_assoc,Rat.pow_succ,ih,Rat.pow_succ];grind
theorem rpow_mul (x:Rat) (m n:Nat):x ^ (m*n)=(x ^ m) ^ n:=by
 induction n with
|zero=>simp [Rat.pow_zero]
|succ n ih=>rw [Nat.mul_succ,rpow_add,ih,Rat.pow_succ]
theorem mon_add (x:Pt) {e f:Ex} (he:e.nat=true) (hf:f.nat=true):mon x (e.add f)=mon x e*mon x f:=by
 rw [Ex.nat_iff] at he hf;simp only [mon,Ex.add,Int.toNat_add,he,hf,rpow_add];grind
def rabs (c:Rat):Rat:=if c<0 then -c else c
def asum:List Trm->Rat
|[]=>0
|t::l=>rabs t.2+asum l
theorem asum_nonneg (l:List Trm):0<=asum l:=by
 induction l with
|nil=>exact Rat.le_refl
|cons t l ih=>simp only [asum,rabs];split <;> grind
theorem pow_ge {T:Rat} (hT:1<=T) {m n:Nat} (h:m<=n):0<=T ^ m/\T ^ m<=T ^ n:=by
 obtain⟨d,rfl⟩:=Nat.exists_eq_add_of_le h
 have h1:∀ k:Nat,1<=T ^ k:=by
  intro k
  induction k with
 |zero=>rw [Rat.pow_zero];exact Rat.le_refl
 |succ k ih =>
   rw [Rat.pow_succ];have:1*T<=T ^ k*T:=Rat.mul_le_mul_of_nonneg_right ih (by grind);grind
 have h2:=h1 m;have h3:=h1 d;refine⟨by grind,?_⟩;rw [rpow_add];have:T ^ m*1<=T ^ m*T ^ d:=Rat.mul_le_mul_of_nonneg_left h3 (by grind);grind
def kro (K:Nat) (e:Ex):Nat:=e.1.toNat+K*(e.2.1.toNat+K*(e.2.2.1.toNat+K*e.2.2.2.toNat))
def kpt (K:Nat) (T:Rat):Pt:=(T,T ^ K,T ^ (K*K),T ^ (K*(K*K)))
theorem mon_kpt (K:Nat) (T:Rat) (e:Ex):mon (kpt K T) e=T ^ kro K e:=by
 simp only [mon,kpt,kro,Nat.mul_add,rpow_add,<- rpow_mul,Nat.mul_assoc];grind
theorem kro_lt {K:Nat} {e f:Ex} (he:e.nat=true) (hf:f.nat=true) (h:e.gt f=true) (b0:f.1<K) (b1:f.2.1<K) (b2:f.2.2.1<K):kro K f<kro K e:=by
 rw [Ex.gt_iff] at h;rw [Ex.nat_iff] at he hf;obtain⟨a,b,c,d⟩:=e;obtain⟨a',b',c',d'⟩:=f;simp only [kro] at *
 have key:∀ p q p' q':Nat,p' < K->q' < q->p'+K*q' < p+K*q:=by
  intro p q p' q' h1 h2;have:K*(q'+1)<=K*q:=Nat.mul_le_mul_left K h2;rw [Nat.mul_succ] at this;omega
 have key2:∀ p q p' q':Nat,p' < p->q'=q->p'+K*q' < p+K*q:=by
  intro p q p' q' h1 h2;rw [h2];omega
 rcases h with h|⟨h,h2⟩
 ·exact key _ _ _ _ (by omega) (key _ _ _ _ (by omega) (key _ _ _ _ (by omega) (by omega)))
 ·rcases h2 with h2|⟨h2,h3⟩
  ·exact key _ _ _ _ (by omega) (key _ _ _ _ (by omega) (key2 _ _ _ _ (by omega) (by omega)))
  ·rcases h3 with h3|⟨h3,h4⟩
   ·exact key _ _ _ _ (by omega) (key2 _ _ _ _ (by omega) (by rw [h,h2]))
   ·exact key2 _ _ _ _ (by omega) (by rw [h,h2,h3])
theorem tail_small {K:Nat} {T:Rat} (hT:1<=T) (N:Nat):∀ l:List Trm,(∀ t∈l,kro K t.1<=N)->- (asum l*T ^ N)<=ev (kpt K T) l/\ev (kpt K T) l<=asum l*T ^ N
|[],_=>by simp only [ev_nil,asum];constructor <;> grind
|t::l,h=>by
  obtain⟨h1,h2⟩:=tail_small hT N l (fun s hs=>h s (by simp [hs]));obtain⟨h3,h4⟩:=pow_ge hT (h t (by simp));rw [ev_cons,mon_kpt];simp only [asum];have h5:rabs t.2*T ^ kro K t.1<=rabs t.2*T ^ N:=Rat.mul_le_mul_of_nonneg_left h4 (by unfold rabs;split <;> grind)
  have h6:- (rabs t.2*T ^ kro K t.1)<=t.2*T ^ kro K t.1/\t.2*T ^ kro K t.1<=rabs t.2*T ^ kro K t.1:=by
   unfold rabs;split
   ·have:0<=(-t.2)*T ^ kro K t.1:=Rat.mul_nonneg (by grind) h3;constructor <;> grind
   ·have:0<=t.2*T ^ kro K t.1:=Rat.mul_nonneg (by grind) h3;constructor <;> grind
  constructor <;> grind
theorem exp_bound:∀ l:List Trm,∃ K:Nat,∀ t∈l,t.1.1<K/\t.1.2.1<K/\t.1.2.2.1<K
|[]=>⟨0,fun _ h=>by cases h⟩
|t::l=>by
  obtain⟨K,h⟩:=exp_bound l;refine⟨K+t.1.1.toNat+t.1.2.1.toNat+t.1.2.2.1.toNat+1,fun s hs=>?_⟩;rcases List.mem_cons.1 hs with rfl|hs
  ·omega
  ·have:=h s hs;omega
theorem ev_ne {t:Trm} {l:List Trm} (h:Vld (t::l)):∃ x,ev x (t::l)≠0:=by
 obtain⟨K,hK⟩:=exp_bound (t::l);have hc:=(h.2 t (by simp)).1;have hS:=asum_nonneg l;have hpos:0<rabs t.2:=by unfold rabs;split <;> grind
 have hinv:0<=(rabs t.2)⁻¹:=Rat.le_of_lt (Rat.inv_pos.2 hpos);obtain⟨T,hT⟩:∃ T,T=asum l*(rabs t.2)⁻¹+1:=⟨_,rfl⟩;have hT1:1<=T:=by have:=Rat.mul_nonneg hS hinv;grind
 have hb:asum l<rabs t.2*T:=by
  have h1:(rabs t.2)⁻¹*rabs t.2=1:=Rat.inv_mul_cancel _ (by grind);have h2:rabs t.2*T=asum l+rabs t.2:=by rw [hT];grind
  rw [h2];grind
 refine⟨kpt K T,fun h0=>?_⟩;rw [ev_cons,mon_kpt] at h0;obtain⟨N,hN⟩:∃ N,N=kro K t.1:=⟨_,rfl⟩;rw [<- hN] at h0
 cases N with
|zero =>
  cases l with
 |nil=>rw [ev_nil,Rat.pow_zero] at h0;grind
 |cons s l =>
   have:=kro_lt (h.2 t (by simp)).2 (h.2 s (by simp)).2 (h.1.head s (by simp)) (hK s (by simp)).1 (hK s (by simp)).2.1 (hK s (by simp)).2.2;omega
|succ N =>
  have ht:=tail_small (K:=K) hT1 N l (fun s hs=>by
   have:=kro_lt (h.2 t (by simp)).2 (h.2 s (by simp [hs])).2 (h.1.head s hs) (hK s (by simp [hs])).1 (hK s (by simp [hs])).2.1 (hK s (by simp [hs])).2.2
   omega)
  have hp:0<T ^ N:=Rat.pow_pos (by grind);have hb':asum l*T ^ N<rabs t.2*T*T ^ N:=Rat.mul_lt_mul_of_pos_right hb hp;rw [Rat.pow_succ] at h0;unfold rabs at hb';split at hb' <;> grind
theorem ev_inj {l r:List Trm} (hl:Vld l) (hr:Vld r) (h:∀ x,ev x l=ev x r):l=r:=by
 have hn:NatL (l++negT r):=fun t ht=>by
  rcases List.mem_append.1 ht with ht|ht
  ·exact hl.nat t ht
  ·simp only [negT,List.mem_map] at ht;obtain⟨s,hs,rfl⟩:=ht;exact hr.nat s hs
 have hz:∀ x,ev x (canon (l++negT r))=0:=fun x=>by
  have:=h x;rw [ev_canon hn,ev_append];unfold ev at *;rw [Lf_neg];grind
 have hnil:canon (l++negT r)=[]:=by
  cases hc:canon (l++negT r) with
 |nil=>rfl
 |cons t q =>
   obtain⟨x,hx⟩:=ev_ne (by rw [<- hc];exact canon_val _);rw [<- hc] at hx;exact absurd (hz x) hx
 refine hl.eqv_inj hr fun f=>?_;have:=canon_eqv hn f;rw [hnil,Lf_append,Lf_neg,Lf_nil] at this;grind
theorem canon_ev' {l r:List Trm} (hl:NatL l) (hr:Vld r) (h:∀ x,ev x l=ev x r):canon l=r :=
 ev_inj (canon_val _) hr fun x=>by rw [ev_canon hl,h]
end Q
end
section
namespace Q
structure Sz where
 D:Nat
 B:Nat
 E:Nat
 N:Nat
def Dv (D:Nat) (c:Rat):Prop:=∃ k:Int,c*(D:Rat)=(k:Rat)
structure Bd (s:Sz) (l:List Trm):Prop where
 n:l.length<=s.N
 e:∀ t∈l,-(s.E:Int)<=t.1.1/\t.1.1<=s.E/\-(s.E:Int)<=t.1.2.1/\t.1.2.1<=s.E/\-(s.E:Int)<=t.1.2.2.1/\t.1.2.2.1<=s.E/\-(s.E:Int)<=t.1.2.2.2/\t.1.2.2.2<=s.E
 d:∀ t∈l,Dv s.D t.2
 b:asum l<=(s.B:Rat)
def Sz.add (s t:Sz):Sz:=⟨Nat.lcm s.D t.D,s.B+t.B,max s.E t.E,s.N+t.N⟩
def Sz.mul (s t:Sz):Sz:=⟨s.D*t.D,s.B*t.B,s.E+t.E,s.N*t.N⟩
def Sz.ok (s:Sz):Prop:=0<s.D/\s.D<65536/\s.B<2 ^ 1000/\s.E<1000000/\s.N<1000000
instance (s:Sz):Decidable s.ok:=by unfold Sz.ok;infer_instance
def Sz.le (s t:Sz):Prop:=s.D∣t.D/\s.B<=t.B/\s.E<=t.E/\s.N<=t.N
instance (s t:Sz):Decidable (s.le t):=by unfold Sz.le;infer_instance
theorem Dv.dvd {D D':Nat} {c:Rat} (h:Dv D c) (hd:D∣D'):Dv D' c:=by
 obtain⟨k,hk⟩:=h;obtain⟨m,rfl⟩:=hd;exact⟨k*m,by rw [Rat.intCast_mul,Rat.intCast_natCast,Rat.natCast_mul];grind⟩
theorem Dv.add {D:Nat} {c d:Rat} (h:Dv D c) (h':Dv D d):Dv D (c+d):=by
 obtain⟨k,hk⟩:=h;obtain⟨m,hm⟩:=h';exact⟨k+m,by rw [Rat.intCast_add];grind⟩
theorem Dv.mul {D D':Nat} {c d:Rat} (h:Dv D c) (h':Dv D' d):Dv (D*D') (c*d):=by
 obtain⟨k,hk⟩:=h;obtain⟨m,hm⟩:=h';exact⟨k*m,by rw [Rat.intCast_mul,Rat.natCast_mul];grind⟩
theorem Dv.neg {D:Nat} {c:Rat} (h:Dv D c):Dv D (-c):=by
 obtain⟨k,hk⟩:=h;exact⟨-k,by rw [Rat.intCast_neg];grind⟩
theorem Dv.zero (D:Nat):Dv D 0:=⟨0,by simp⟩
theorem Dv.int (D:Nat) (k:Int):Dv D k:=⟨k*D,by rw [Rat.intCast_mul,Rat.intCast_natCast]⟩
theorem rabs_nonneg (c:Rat):0<=rabs c:=by unfold rabs;split <;> grind
theorem rabs_add (c d:Rat):rabs (c+d)<=rabs c+rabs d:=by unfold rabs;split <;> split <;> split <;> grind
theorem rabs_neg (c:Rat):rabs (-c)=rabs c:=by unfold rabs;split <;> split <;> grind
theorem rlt_or_le (c:Rat):c<0\/0<=c:=by grind
theorem rabs_of_neg {c:Rat} (h:c<0):rabs c=-c:=by unfold rabs;rw [if_pos h]
theorem rabs_of_pos {c:Rat} (h:0<=c):rabs c=c:=by unfold rabs;rw [if_neg (by grind)]
theorem rabs_mul (c d:Rat):rabs (c*d)=rabs c*rabs d:=by
 rcases rlt_or_le c with hc|hc <;> rcases rlt_or_le d with hd|hd
 ·have:=Rat.mul_pos (show 0 < -c by grind) (show 0 < -d by grind);have e:-c*-d=c*d:=by grind
  rw [e] at this;rw [rabs_of_neg hc,rabs_of_neg hd,rabs_of_pos (Rat.le_of_lt this),e]
 ·have:=Rat.mul_nonneg (show 0<=-c by grind) hd;have e:-c*d=-(c*d):=by grind
  rw [e] at this;rw [rabs_of_neg hc,rabs_of_pos hd,e,<- rabs_neg,rabs_of_pos this]
 ·have:=Rat.mul_nonneg hc (show 0<=-d by grind);have e:c*-d=-(c*d):=by grind
  rw [e] at this;rw [rabs_of_pos hc,rabs_of_neg hd,e,<- rabs_neg,rabs_of_pos this]
 ·rw [rabs_of_pos hc,rabs_of_pos hd,rabs_of_pos (Rat.mul_nonneg hc hd)]
theorem asum_append (l r:List Trm):asum (l++r)=asum l+asum r:=by
 induction l with
|nil=>simp only [List.nil_append,asum];grind
|cons t l ih=>simp only [List.cons_append,asum,ih];grind
theorem asum_mem {l:List Trm} {t:Trm} (h:t∈l):rabs t.2<=asum l:=by
 induction l with
|nil=>cases h
|cons s l ih =>
  simp only [asum];rcases List.mem_cons.1 h with rfl|h
  ·have:=asum_nonneg l;grind
  ·have:=ih h;have:=rabs_nonneg s.2;grind
theorem asum_map_mul {l:List Trm} {g:Trm->Trm} {c:Rat} (h:∀ t∈l,rabs (g t).2<=rabs t.2*c):asum (l.map g)<=asum l*c:=by
 induction l with
|nil=>simp only [List.map_nil,asum];grind
|cons t l ih =>
  have:=h t (by simp);have:=ih (fun s hs=>h s (by simp [hs]));simp only [List.map_cons,asum];grind
theorem Bd.nil (s:Sz):Bd s []:=⟨Nat.zero_le _,(fun t h=>absurd h (by simp)),(fun t h=>absurd h (by simp)),by simp only [asum];exact Rat.natCast_nonneg⟩
theorem Bd.sub {s:Sz} {l r:List Trm} (h:Bd s l) (hr:r.Sublist l):Bd s r where
 n:=Nat.le_trans hr.length_le h.n
 e:=fun x hx=>h.e x (hr.subset hx)
 d:=fun x hx=>h.d x (hr.subset hx)
 b:=by
  refine Rat.le_trans ?_ h.b;clear h
  induction hr with
 |slnil=>exact Rat.le_refl
 |cons t _ ih=>have:=rabs_nonneg t.2;simp only [asum];grind
 |cons_cons t _ ih=>simp only [asum];grind
theorem ins_length (l:List Trm) (m:Trm):(ins l m).length<=l.length+1:=by
 induction l with
|nil=>unfold ins;split <;> simp
|cons t r ih=>unfold ins;split <;> (try split) <;> (try split) <;> simp <;> omega
theorem ins_asum (l:List Trm) (m:Trm):asum (ins l m)<=asum l+rabs m.2:=by
 have:=rabs_nonneg m.2
 induction l with
|nil=>unfold ins;split <;> simp only [asum] <;> grind
|cons t r ih =>
  have:=rabs_add m.2 t.2;have:=rabs_nonneg t.2;unfold ins;split <;> (try split) <;> (try split) <;> simp only [asum] <;> grind
theorem ins_dv {D:Nat} {l:List Trm} {m:Trm} (h:∀ t∈l,Dv D t.2) (hm:Dv D m.2):∀ t∈ins l m,Dv D t.2:=by
 induction l with
|nil=>unfold ins;split <;> simp;exact hm
|cons t r ih =>
  unfold ins;split
  ·intro s hs;rcases List.mem_cons.1 hs with rfl|hs
   ·exact h _ (by simp)
   ·exact ih (fun s hs=>h s (by simp [hs])) s hs
  ·split
   ·split
    ·intro s hs;rcases List.mem_cons.1 hs with rfl|hs
     ·exact hm.add (h t (by simp))
     ·exact h s (by simp [hs])
    ·intro s hs;exact h s (by simp [hs])
   ·split
    ·intro s hs;rcases List.mem_cons.1 hs with rfl|hs
     ·exact hm
     ·exact h s hs
    ·exact h
theorem ins_ex {p:Ex->Prop} {l:List Trm} {m:Trm} (h:∀ t∈l,p t.1) (hm:p m.1):∀ t∈ins l m,p t.1:=fun t ht=>by
 rcases ins_mem ht with e|ht
 ·rw [e];exact hm
 ·exact h t ht
theorem foldl_bd {p:Ex->Prop} {D:Nat}:∀ {l r:List Trm},(∀ t∈l,p t.1)->(∀ t∈r,p t.1)->(∀ t∈l,Dv D t.2)->(∀ t∈r,Dv D t.2) ->
  (l.foldl ins r).length<=r.length+l.length/\asum (l.foldl ins r)<=asum r+asum l/\(∀ t∈l.foldl ins r,p t.1)/\∀ t∈l.foldl ins r,Dv D t.2
|[],r,_,h2,_,h4=>⟨by simp,by simp only [List.foldl_nil,asum];grind,h2,h4⟩
|m::l,r,h1,h2,h3,h4=>by
  have:=foldl_bd (l:=l) (r:=ins r m) (fun t ht=>h1 t (by simp [ht])) (ins_ex h2 (h1 m (by simp))) (fun t ht=>h3 t (by simp [ht])) (ins_dv h4 (h3 m (by simp)));have h5:=ins_length r m;have h6:=ins_asum r m;refine⟨?_,?_,this.2.2.1,this.2.2.2⟩
  ·simp only [List.foldl_cons,List.length_cons];omega
  ·have:=this.2.1;simp only [List.foldl_cons,asum];grind
theorem Bd.canon {s:Sz} {l:List Trm} (h:Bd s l):Bd s (canon l):=by
 have:=foldl_bd (l:=l) (r:=[]) (p:=fun e=>-(s.E:Int)<=e.1/\e.1<=s.E/\-(s.E:Int)<=e.2.1/\e.2.1<=s.E/\-(s.E:Int)<=e.2.2.1/\e.2.2.1<=s.E/\-(s.E:Int)<=e.2.2.2/\e.2.2.2<=s.E) (D:=s.D)
  h.e (fun _ h=>by cases h) h.d (fun _ h=>by cases h)
 refine⟨Nat.le_trans (by simpa [Q.canon] using this.1) h.n,this.2.2.1,this.2.2.2,Rat.le_trans this.2.1 ?_⟩;have:=h.b;simp only [asum];grind
def mulT (s t:Trm):Trm:=(s.1.add t.1,s.2*t.2)
def prods (l r:List Trm):List Trm:=l.flatMap fun s=>r.map (mulT s)
theorem prods_nil (r:List Trm):prods [] r=[]:=rfl
theorem prods_cons (s:Trm) (l r:List Trm):prods (s::l) r=r.map (mulT s)++prods l r:=rfl
theorem NatL.append {l r:List Trm} (h:NatL l) (h':NatL r):NatL (l++r):=fun t ht=>by
 rcases List.mem_append.1 ht with ht|ht
 ·exact h t ht
 ·exact h' t ht
theorem NatL.mulT {s:Trm} {r:List Trm} (hs:s.1.nat=true) (h:NatL r):NatL (r.map (mulT s)):=fun t ht=>by
 obtain⟨u,hu,rfl⟩:=List.mem_map.1 ht;exact Ex.nat_add hs (h u hu)
theorem NatL.tail {s:Trm} {l:List Trm} (h:NatL (s::l)):NatL l:=fun t ht=>h t (by simp [ht])
theorem NatL.head {s:Trm} {l:List Trm} (h:NatL (s::l)):s.1.nat=true:=h s (by simp)
theorem NatL.nil:NatL []:=fun _ h=>by cases h
theorem NatL.prods:∀ {l r:List Trm},NatL l->NatL r->NatL (prods l r)
|[],_,_,_=>NatL.nil
|_::_,_,h,h'=>(NatL.mulT h.head h').append (NatL.prods h.tail h')
theorem ev_map_mulT {s:Trm} {r:List Trm} (x:Pt) (hs:s.1.nat=true) (h:NatL r):ev x (r.map (mulT s))=s.2*mon x s.1*ev x r:=by
 induction r with
|nil=>simp only [List.map_nil,ev_nil];grind
|cons t r ih=>rw [List.map_cons,ev_cons,ev_cons,ih h.tail];simp only [mulT];rw [mon_add x hs h.head];grind
theorem ev_prods:∀ {l r:List Trm} (x:Pt),NatL l->NatL r->ev x (prods l r)=ev x l*ev x r
|[],_,x,_,_=>by rw [prods_nil,ev_nil];grind
|s::l,r,x,h,h'=>by rw [prods_cons,ev_append,ev_map_mulT x h.head h',ev_prods x h.tail h',ev_cons];grind
theorem asum_map_mulT (s:Trm) (r:List Trm):asum (r.map (mulT s))=rabs s.2*asum r:=by
 induction r with
|nil=>simp only [List.map_nil,asum];grind
|cons t r ih=>simp only [List.map_cons,asum,ih,mulT,rabs_mul];grind
theorem asum_prods (l r:List Trm):asum (prods l r)=asum l*asum r:=by
 induction l with
|nil=>simp only [prods_nil,asum];grind
|cons s l ih=>rw [prods_cons,asum_append,ih,asum_map_mulT];simp only [asum];grind
theorem prods_length (l r:List Trm):(prods l r).length=l.length*r.length:=by
 induction l with
|nil=>simp [prods_nil]
|cons s l ih=>rw [prods_cons];simp [ih,Nat.add_mul];omega
theorem mem_prods {l r:List Trm} {t:Trm} (h:t∈prods l r):∃ a∈l,∃ b∈r,t=mulT a b:=by
 simp only [prods,List.mem_flatMap,List.mem_map] at h;obtain⟨a,ha,b,hb,e⟩:=h;exact⟨a,ha,b,hb,e.symm⟩
theorem rmul_le {a b c d:Rat} (h1:a<=b) (h2:c<=d) (h3:0<=a) (h4:0<=d):a*c<=b*d:=by
 have h5:a*c<=a*d:=Rat.mul_le_mul_of_nonneg_left h2 h3;have h6:a*d<=b*d:=Rat.mul_le_mul_of_nonneg_right h1 h4;grind
theorem Bd.prods {s t:Sz} {l r:List Trm} (h:Bd s l) (h':Bd t r):Bd (s.mul t) (prods l r) where
 n:=by rw [prods_length];exact Nat.mul_le_mul h.n h'.n
 e:=fun x hx=>by
  obtain⟨a,ha,b,hb,rfl⟩:=mem_prods hx;have:=h.e a ha;have:=h'.e b hb;simp only [mulT,Ex.add,Sz.mul];omega
 d:=fun x hx=>by
  obtain⟨a,ha,b,hb,rfl⟩:=mem_prods hx;exact (h.d a ha).mul (h'.d b hb)
 b:=by
  rw [asum_prods];simp only [Sz.mul];rw [Rat.natCast_mul];exact rmul_le h.b h'.b (asum_nonneg _) (Rat.natCast_nonneg)
end Q
end
section
namespace Q
abbrev e0:Ex:=(0,0,0,0)
def constP (c:Rat):List Trm:=if c=0 then [] else [(e0,c)]
def unitE (v:Nat):Ex:=Ex.put e0 v 1
def varP (v:Nat):List Trm:=[(unitE v,1)]
def addP (p q:List Trm):List Trm:=canon (p++q)
def scaleP (p:List Trm) (c:Rat):List Trm:=if c=0 then [] else p.map fun t=>(t.1,t.2*c)
def subP (p q:List Trm):List Trm:=addP p (scaleP q (-1))
def mulP (p q:List Trm):List Trm:=canon (prods p q)
def powP (p:List Trm):Nat->List Trm
|0=>constP 1
|n+1=>mulP (powP p n) p
def degP (p:List Trm) (v:Nat):Int:=p.foldl (fun d t=>max d (t.1.get v)) (-1)
def coeffP (p:List Trm) (v:Nat) (n:Int):List Trm:=(p.filter fun t=>t.1.get v=n).map fun t=>(t.1.put v 0,t.2)
def coeffsP (p:List Trm) (v:Nat):List (List Trm):=(List.range (degP p v+1).toNat).map fun n:Nat=>coeffP p v n
def shiftL (p:List Trm) (v:Nat) (i:Int):List Trm:=p.map fun t=>(t.1.put v (t.1.get v+i),t.2)
def fromL (v:Nat):Int->List (List Trm)->List Trm
|_,[]=>[]
|i,p::l=>shiftL p v i++fromL v (i+1) l
def fromP (l:List (List Trm)) (v:Nat):List Trm:=canon (fromL v 0 l)
def partialP (p:List Trm) (v:Nat):List Trm:=(p.filter fun t=>0<t.1.get v).map fun t=>(t.1.put v (t.1.get v-1),t.2*(t.1.get v:Rat))
def evalL (p:List Trm) (v:Nat) (c:Rat):List Trm:=p.map fun t=>(t.1.put v 0,t.2*c ^ (t.1.get v).toNat)
def evalP (p:List Trm) (v:Nat) (c:Rat):List Trm:=canon (evalL p v c)
def substP (p:List Trm) (v:Nat) (b:List Trm):List Trm:=(coeffsP p v).foldr (fun c out=>addP (mulP out b) c) []
theorem Vld.const (c:Rat):Vld (constP c):=by
 unfold constP;split
 ·exact Vld.nil
 ·rename_i h;exact⟨List.pairwise_cons.2 ⟨fun _ h=>(by cases h),List.Pairwise.nil⟩,fun t ht=>by simp at ht;subst ht;exact⟨h,rfl⟩⟩
theorem unitE_nat (v:Nat):(unitE v).nat=true:=by rcases v with _|_|_|v <;> rfl
theorem Vld.var (v:Nat):Vld (varP v) :=
 ⟨List.pairwise_cons.2 ⟨fun _ h=>(by cases h),List.Pairwise.nil⟩,fun t ht=>by simp [varP] at ht;subst ht;exact⟨(by decide:(1:Rat)≠0),unitE_nat v⟩⟩
theorem Vld.add (p q:List Trm):Vld (addP p q):=canon_val _
theorem Vld.mul (p q:List Trm):Vld (mulP p q):=canon_val _
theorem Vld.sub (p q:List Trm):Vld (subP p q):=canon_val _
theorem rmul_ne {a b:Rat} (ha:a≠0) (hb:b≠0):a*b≠0:=by
 intro h;rcases Rat.mul_eq_zero.1 h with h|h
 ·exact ha h
 ·exact hb h
theorem Srt.map {l:List Trm} {g:Trm->Trm} (h:Srt l) (hg:∀ s∈l,∀ t∈l,s.1.gt t.1=true->(g s).1.gt (g t).1=true):Srt (l.map g):=by
 unfold Srt at *;rw [List.pairwise_map];exact h.imp_of_mem fun hs ht=>hg _ hs _ ht
theorem Vld.scale {p:List Trm} (h:Vld p) (c:Rat):Vld (scaleP p c):=by
 unfold scaleP;split
 ·exact Vld.nil
 ·rename_i hc;refine⟨h.1.map fun _ _ _ _ h=>h,fun t ht=>?_⟩;obtain⟨s,hs,rfl⟩:=List.mem_map.1 ht;exact⟨rmul_ne (h.2 s hs).1 hc,(h.2 s hs).2⟩
theorem Vld.pow (p:List Trm):∀ n,Vld (powP p n)
|0=>Vld.const _
|_+1=>canon_val _
theorem Ex.put_nat {e:Ex} (h:e.nat=true) (v:Nat) {x:Int} (hx:0<=x):(e.put v x).nat=true:=by
 rw [Ex.nat_iff] at *;rcases v with _|_|_|v <;> simp only [Ex.put] <;> omega
theorem Ex.get_put (e:Ex) (v:Nat) (x:Int):(e.put v x).get v=x:=by rcases v with _|_|_|v <;> rfl
theorem Ex.put_get (e:Ex) (v:Nat):e.put v (e.get v)=e:=by rcases v with _|_|_|v <;> rfl
theorem Ex.put_put (e:Ex) (v:Nat) (x y:Int):(e.put v x).put v y=e.put v y:=by rcases v with _|_|_|v <;> rfl
theorem Ex.gt_put_same {e f:Ex} (v:Nat) (h:e.gt f=true) (hv:e.get v=f.get v) (x:Int):(e.put v x).gt (f.put v x)=true:=by
 rw [Ex.gt_iff] at *;obtain⟨a,b,c,d⟩:=e;obtain⟨a',b',c',d'⟩:=f;rcases v with _|_|_|v <;> simp only [Ex.put,Ex.get] at h hv ⊢ <;> subst hv <;> simp only [Int.lt_irrefl,and_false,or_false,false_or,true_and] at h ⊢ <;> omega
theorem Srt.sub {l r:List Trm} (h:Srt l) (hr:r.Sublist l):Srt r:=List.Pairwise.sublist hr h
theorem Vld.sublist {l r:List Trm} (h:Vld l) (hr:r.Sublist l):Vld r:=⟨h.1.sub hr,fun t ht=>h.2 t (hr.subset ht)⟩
theorem Vld.coeff {p:List Trm} (h:Vld p) (v:Nat) (n:Int):Vld (coeffP p v n):=by
 unfold coeffP;have h':=h.sublist (List.filter_sublist (l:=p) (p:=fun t=>t.1.get v=n));refine⟨h'.1.map fun s hs t ht hst=>Ex.gt_put_same v hst ?_ 0,fun t ht=>?_⟩
 ·have h1:=(List.mem_filter.1 hs).2;have h2:=(List.mem_filter.1 ht).2;simp only [decide_eq_true_eq] at h1 h2;rw [h1,h2]
 ·obtain⟨s,hs,rfl⟩:=List.mem_map.1 ht;exact⟨(h'.2 s hs).1,Ex.put_nat (h'.2 s hs).2 v (Int.le_refl _)⟩
theorem ev_const (x:Pt) (c:Rat):ev x (constP c)=c:=by
 unfold constP;split
 ·rename_i h;rw [ev_nil,h]
 ·rw [ev_cons,ev_nil];simp [mon];grind
theorem ev_var (x:Pt) (v:Nat):ev x (varP v)=x.get v:=by
 rw [varP,ev_cons,ev_nil]
 have:mon x (unitE v)=x.get v:=by
  rcases v with _|_|_|v <;> simp [unitE,Ex.put,Pt.get,mon,Rat.pow_succ,Rat.pow_zero]
 rw [this];grind
theorem ev_add (x:Pt) {p q:List Trm} (h:NatL p) (h':NatL q):ev x (addP p q)=ev x p+ev x q:=by
 rw [addP,ev_canon (h.append h'),ev_append]
theorem ev_scale (x:Pt) (p:List Trm) (c:Rat):ev x (scaleP p c)=ev x p*c:=by
 unfold scaleP;split
 ·rename_i h;rw [ev_nil,h];grind
 ·unfold ev;rw [Lf_map _ _ (fun e=>c*mon x e) p (fun t _=>by grind),Lf_smul];grind
theorem ev_sub (x:Pt) {p q:List Trm} (h:NatL p) (h':Vld q):ev x (subP p q)=ev x p-ev x q:=by
 rw [subP,ev_add x h (h'.scale _).nat,ev_scale];grind
theorem ev_mul (x:Pt) {p q:List Trm} (h:NatL p) (h':NatL q):ev x (mulP p q)=ev x p*ev x q:=by
 rw [mulP,ev_canon (h.prods h'),ev_prods x h h']
theorem ev_pow (x:Pt) {p:List Trm} (h:NatL p):∀ n,ev x (powP p n)=ev x p ^ n
|0=>by rw [powP,ev_const,Rat.pow_zero]
|n+1=>by rw [powP,ev_mul x (Vld.pow p n).nat h,ev_pow x h n,Rat.pow_succ]
theorem mon_put (x:Pt) (e:Ex) (v:Nat) (c:Rat):mon (x.put v c) e=mon x (e.put v 0)*c ^ (e.get v).toNat:=by
 rcases v with _|_|_|v <;> simp only [Pt.put,Ex.put,Ex.get,mon,Int.toNat_zero,Rat.pow_zero] <;> grind
theorem mon_put' (x:Pt) (e:Ex) (v:Nat) (n:Int):mon x (e.put v n)=mon x (e.put v 0)*x.get v ^ n.toNat:=by
 rcases v with _|_|_|v <;> simp only [Pt.get,Ex.put,mon,Int.toNat_zero,Rat.pow_zero] <;> grind
theorem NatL.evalL {p:List Trm} (h:NatL p) (v:Nat) (c:Rat):NatL (evalL p v c):=fun t ht=>by
 obtain⟨s,hs,rfl⟩:=List.mem_map.1 ht;exact Ex.put_nat (h s hs) v (Int.le_refl _)
theorem ev_evalL (x:Pt) (p:List Trm) (v:Nat) (c:Rat):ev x (evalL p v c)=ev (x.put v c) p:=by
 unfold ev evalL;exact Lf_map _ _ _ p fun t _=>by rw [mon_put];grind
theorem ev_eval (x:Pt) {p:List Trm} (h:NatL p) (v:Nat) (c:Rat):ev x (evalP p v c)=ev (x.put v c) p:=by
 rw [evalP,ev_canon (h.evalL v c),ev_evalL]
theorem foldl_max (f:Trm->Int):∀ (p:List Trm) (d:Int),d<=p.foldl (fun d t=>max d (f t)) d/\(∀ t∈p,f t<=p.foldl (fun d t=>max d (f t)) d)/\(p.foldl (fun d t=>max d (f t)) d=d\/∃ t∈p,f t=p.foldl (fun d t=>max d (f t)) d)
|[],d=>⟨Int.le_refl _,(fun _ h=>by cases h),Or.inl rfl⟩
|t::p,d=>by
  obtain⟨h1,h2,h3⟩:=foldl_max f p (max d (f t));refine⟨by simp only [List.foldl_cons];omega,fun s hs=>?_,?_⟩
  ·simp only [List.foldl_cons];rcases List.mem_cons.1 hs with rfl|hs
   ·omega
   ·exact h2 s hs
  ·simp only [List.foldl_cons];rcases h3 with h3|⟨s,hs,h3⟩
   ·rw [h3];rcases Int.le_total d (f t) with h|h
    ·exact Or.inr ⟨t,by simp,by omega⟩
    ·exact Or.inl (by omega)
   ·exact Or.inr ⟨s,by simp [hs],h3⟩
theorem degP_ge (p:List Trm) (v:Nat):-1<=degP p v:=(foldl_max (fun t=>t.1.get v) p (-1)).1
theorem degP_le {p:List Trm} {t:Trm} (h:t∈p) (v:Nat):t.1.get v<=degP p v:=(foldl_max (fun t=>t.1.get v) p (-1)).2.1 t h
theorem degP_mem {p:List Trm} (h:p≠[]) (hn:NatL p) (v:Nat):∃ t∈p,t.1.get v=degP p v:=by
 rcases (foldl_max (fun t=>t.1.get v) p (-1)).2.2 with h1|h1
 ·exfalso
  cases p with
 |nil=>exact h rfl
 |cons t p =>
   have:=degP_le (p:=t::p) (t:=t) (by simp) v;have:=Ex.nat_get (hn t (by simp)) v;unfold degP at *;omega
 ·exact h1
theorem coeffsP_length (p:List Trm) (v:Nat):(coeffsP p v).length=(degP p v+1).toNat:=by simp [coeffsP]
theorem Lf_coeff (f:Ex->Rat) (p:List Trm) (v:Nat) (n:Int):Lf f (coeffP p v n)=Lf (fun e=>if e.get v=n then f (e.put v 0) else 0) p:=by
 unfold coeffP
 induction p with
|nil=>rfl
|cons t p ih =>
  simp only [List.filter_cons];split
  ·rename_i h;simp only [decide_eq_true_eq] at h;simp only [List.map_cons,Lf_cons,ih,if_pos h]
  ·rename_i h;simp only [decide_eq_true_eq] at h;simp only [Lf_cons,ih,if_neg h];grind
def rsum (f:Nat->Rat):Nat->Rat
|0=>0
|n+1=>rsum f n+f n
theorem rsum_congr {f g:Nat->Rat}:∀ {n:Nat},(∀ i,i<n->f i=g i)->rsum f n=rsum g n
|0,_=>rfl
|n+1,h=>by rw [rsum,rsum,rsum_congr (n:=n) (fun i hi=>h i (by omega)),h n (by omega)]
theorem rsum_add (f g:Nat->Rat):∀ n,rsum (fun i=>f i+g i) n=rsum f n+rsum g n
|0=>by simp only [rsum];grind
|n+1=>by simp only [rsum,rsum_add f g n];grind
theorem rsum_one {f:Nat->Rat} {k:Nat}:∀ {n:Nat},k<n->(∀ i,i<n->i≠k->f i=0)->rsum f n=f k
|0,h,_=>by omega
|n+1,h,h'=>by
  rw [rsum];by_cases e:k=n
  ·subst e;have:rsum f k=rsum (fun _=>0) k:=rsum_congr fun i hi=>h' i (by omega) (by omega)
   have z:∀ m,rsum (fun _=>(0:Rat)) m=0:=by intro m;induction m with
   |zero=>rfl
   |succ m ih=>simp only [rsum,ih];grind
   rw [this,z];grind
  ·rw [rsum_one (n:=n) (by omega) (fun i hi hne=>h' i (by omega) hne),h' n (by omega) (fun e'=>e e'.symm)];grind
theorem ev_split (x:Pt) (v:Nat) (c:Rat) (N:Nat):∀ {p:List Trm},NatL p->(∀ t∈p,t.1.get v<N)->ev (x.put v c) p=rsum (fun n=>ev x (coeffP p v n)*c ^ n) N
|[],_,_=>by
  have:∀ m,rsum (fun n=>ev x (coeffP [] v n)*c ^ n) m=0:=by
   intro m;induction m with
  |zero=>rfl
  |succ m ih=>simp only [rsum,ih];show (0:Rat)+(0:Rat)*_=0;grind
  rw [this];rfl
|t::p,h,hN=>by
  have h1:=Ex.nat_get h.head v;have h2:=hN t (by simp);rw [ev_cons,ev_split x v c N h.tail (fun s hs=>hN s (by simp [hs])),mon_put]
  have e:∀ n:Nat,ev x (coeffP (t::p) v n)*c ^ n=(if t.1.get v=n then t.2*mon x (t.1.put v 0) else 0)*c ^ n+ev x (coeffP p v n)*c ^ n:=by
   intro n;unfold ev;rw [Lf_coeff,Lf_coeff,Lf_cons];split <;> grind
  rw [rsum_congr (fun i _=>e i),rsum_add,rsum_one (f:=fun n:Nat=>(if t.1.get v=(n:Int) then t.2*mon x (t.1.put v 0) else 0)*c ^ n) (k:=(t.1.get v).toNat) (by omega) (fun i _ hi=>by rw [if_neg (by omega)];grind),if_pos (by omega)];grind
theorem degP_lt {p:List Trm} {v:Nat}:∀ t∈p,t.1.get v<((degP p v+1).toNat:Int):=fun t ht=>by have:=degP_le ht v;have:=degP_ge p v;omega
def hornerP (b:List Trm) (l:List (List Trm)):List Trm:=l.foldr (fun c out=>addP (mulP out b) c) []
theorem mem_coeffsP {p c:List Trm} {v:Nat} (h:c∈coeffsP p v):∃ n:Nat,c=coeffP p v n:=by
 obtain⟨n,_,e⟩:=List.mem_map.1 h;exact⟨n,e.symm⟩
theorem coeffsP_get {p:List Trm} {v n:Nat} (h:n<(degP p v+1).toNat):(coeffsP p v).getD n []=coeffP p v n:=by
 simp [coeffsP,List.getD_eq_getElem?_getD,h]
theorem ev_shift (x:Pt) {p:List Trm} (h:NatL p) (v i:Nat):ev x (shiftL p v i)=ev x p*x.get v ^ i:=by
 unfold ev shiftL
 rw [Lf_map _ _ (fun e=>x.get v ^ i*mon x e) p (fun t ht=>by
  have:=Ex.nat_get (h t ht) v;rw [mon_put' x t.1 v (t.1.get v+i),Int.toNat_add this (Int.natCast_nonneg i),rpow_add];have e:=mon_put' x t.1 v (t.1.get v);rw [Ex.put_get] at e;simp only [Int.toNat_natCast]
  rw [e];grind),Lf_smul];grind
theorem NatL.shift {p:List Trm} (h:NatL p) (v:Nat) {i:Int} (hi:0<=i):NatL (shiftL p v i):=fun t ht=>by
 obtain⟨s,hs,rfl⟩:=List.mem_map.1 ht;exact Ex.put_nat (h s hs) v (by have:=Ex.nat_get (h s hs) v;omega)
theorem NatL.fromL (v:Nat):∀ {l:List (List Trm)} {i:Int},0<=i->(∀ c∈l,NatL c)->NatL (fromL v i l)
|[],_,_,_=>NatL.nil
|c::l,i,hi,h=>((h c (by simp)).shift v hi).append (NatL.fromL v (by omega) (fun c hc=>h c (by simp [hc])))
theorem ev_fromL (x:Pt) (v:Nat):∀ {l:List (List Trm)} {i:Nat},(∀ c∈l,NatL c)->ev x (fromL v i l)=rsum (fun n=>ev x (l.getD n [])*x.get v ^ n) l.length*x.get v ^ i
|[],i,_=>by simp only [fromL,ev_nil,List.length_nil,rsum];grind
|c::l,i,h=>by
  have e:((i:Int)+1)=((i+1:Nat):Int):=by omega
  rw [fromL,ev_append,ev_shift x (h c (by simp)),e,ev_fromL x v (fun c hc=>h c (by simp [hc]))]
  have key:∀ n:Nat,rsum (fun i=>ev x ((c::l).getD i [])*x.get v ^ i) (n+1)=rsum (fun i=>ev x (l.getD i [])*x.get v ^ i) n*x.get v+ev x c:=by
   intro n
   induction n with
  |zero=>simp only [rsum,List.getD_cons_zero,Rat.pow_zero];grind
  |succ n ih =>
    rw [rsum,ih];simp only [rsum,List.getD_cons_succ,Rat.pow_succ];grind
  rw [List.length_cons,key,Rat.pow_succ];grind
theorem ev_from (x:Pt) (v:Nat) {l:List (List Trm)} (h:∀ c∈l,NatL c):ev x (fromP l v)=rsum (fun n=>ev x (l.getD n [])*x.get v ^ n) l.length:=by
 have:=ev_fromL x v (i:=0) h;rw [fromP,ev_canon (NatL.fromL v (Int.le_refl _) h)];rw [show ((0:Nat):Int)=0 from rfl] at this;rw [this,Rat.pow_zero];grind
theorem Pt.put_get (x:Pt) (v:Nat):x.put v (x.get v)=x:=by rcases v with _|_|_|v <;> rfl
theorem from_coeffs {p:List Trm} (h:Vld p) (v:Nat):fromP (coeffsP p v) v=p:=by
 refine canon_ev' (NatL.fromL v (Int.le_refl _) fun c hc=>?_) h fun x=>?_
 ·obtain⟨n,rfl⟩:=mem_coeffsP hc;exact (h.coeff v n).nat
 ·have:=ev_from x v (l:=coeffsP p v) (fun c hc=>by obtain⟨n,rfl⟩:=mem_coeffsP hc;exact (h.coeff v n).nat);rw [fromP,ev_canon (NatL.fromL v (Int.le_refl _) fun c hc=>by obtain⟨n,rfl⟩:=mem_coeffsP hc;exact (h.coeff v n).nat)] at this;rw [this];have e:=ev_split x v (x.get v) _ h.nat degP_lt;rw [Pt.put_get] at e;rw [e,coeffsP_length];exact rsum_congr fun i hi=>by rw [coeffsP_get hi]
end Q
end
section
namespace Q
theorem cf_one {l:List Trm} (h:l.Pairwise (fun s t=>s.1≠t.1)) {t:Trm} (ht:t∈l):cf l t.1=t.2:=by
 induction l with
|nil=>cases ht
|cons s l ih =>
  obtain⟨h1,h2⟩:=List.pairwise_cons.1 h;rw [cf_cons];rcases List.mem_cons.1 ht with rfl|ht
  ·rw [if_pos rfl,cf_out (fun u hu=>(h1 u hu).symm)];grind
  ·rw [if_neg (h1 t ht),ih h2 ht];grind
theorem cf_in {l:List Trm} {e:Ex} (h:cf l e≠0):∃ t∈l,t.1=e:=by
 apply Classical.byContradiction;intro hn;exact h (cf_out fun t ht he=>hn ⟨t,ht,he⟩)
theorem cf_perm {l r:List Trm} (h:l.Perm r) (e:Ex):cf l e=cf r e:=by
 induction h with
|nil=>rfl
|cons x _ ih=>rw [cf_cons,cf_cons,ih]
|swap x y l=>rw [cf_cons,cf_cons,cf_cons,cf_cons];grind
|trans _ _ h1 h2=>rw [h1,h2]
theorem canon_of_collect {l L l':List Trm} (h1:L.Pairwise (fun s t=>s.1≠t.1)) (h2:∀ t∈L,t.1.nat=true/\t.2=cf l t.1/\t.2≠0) (h3:∀ e:Ex,e.nat=true->cf l e≠0->(e,cf l e)∈L)
  (hp:L.Perm l') (hs:l'.Pairwise (fun s t=>t.1.gt s.1=false)):l'=canon l:=by
 have h1':l'.Pairwise (fun s t=>s.1≠t.1):=(hp.pairwise_iff (fun h=>Ne.symm h)).1 h1
 have hsrt:Srt l':=by
  have:=List.pairwise_and_iff.2 ⟨hs,h1'⟩;exact this.imp fun⟨a,b⟩=>Ex.gt_total a (fun e=>b e.symm)
 have hv:Vld l':=⟨hsrt,fun t ht=>by have:=h2 t (hp.mem_iff.2 ht);exact⟨this.2.2,this.1⟩⟩;refine hv.inj (canon_val l) fun e=>?_;rw [cf_canon,<- cf_perm hp];by_cases hz:cf L e=0
 ·rw [hz];split
  ·rename_i hn;apply Classical.byContradiction;intro hc;have:=cf_one h1 (h3 e hn (fun h=>hc h.symm));rw [hz] at this;exact hc this
  ·rfl
 ·obtain⟨t,ht,rfl⟩:=cf_in hz;rw [cf_one h1 ht,if_pos (h2 t ht).1,(h2 t ht).2.1]
def mergeP:List Trm->List Trm->List Trm
|[],q=>q
|p,[]=>p
|s::p,t::q=>if s.1.gt t.1=true then s::mergeP p (t::q) else if t.1.gt s.1=true then t::mergeP (s::p) q else if s.2+t.2=0 then mergeP p q else (s.1,s.2+t.2)::mergeP p q
 termination_by p q=>p.length+q.length
theorem mergeP_nil (p:List Trm):mergeP p []=p:=by cases p <;> simp [mergeP]
theorem mergeP_nil' (q:List Trm):mergeP [] q=q:=by simp [mergeP]
theorem mergeP_below {e:Ex}:∀ {p q:List Trm},(∀ t∈p,e.gt t.1=true)->(∀ t∈q,e.gt t.1=true)->∀ t∈mergeP p q,e.gt t.1=true
|[],q,_,h=>by rw [mergeP_nil'];exact h
|s::p,[],h,_=>by rw [mergeP_nil];exact h
|s::p,t::q,h,h'=>by
  intro u hu;unfold mergeP at hu;have hs:=h s (by simp);have ht:=h' t (by simp);have hp:∀ t∈p,e.gt t.1=true:=fun t ht=>h t (by simp [ht]);have hq:∀ t∈q,e.gt t.1=true:=fun t ht=>h' t (by simp [ht]);split at hu
  ·rcases List.mem_cons.1 hu with rfl|hu
   ·exact hs
   ·exact mergeP_below hp h' u hu
  ·split at hu
   ·rcases List.mem_cons.1 hu with rfl|hu
    ·exact ht
    ·exact mergeP_below h hq u hu
   ·split at hu
    ·exact mergeP_below hp hq u hu
    ·rcases List.mem_cons.1 hu with rfl|hu
     ·exact hs
     ·exact mergeP_below hp hq u hu
 termination_by p q=>p.length+q.length
theorem mergeP_ok:∀ {p q:List Trm},Vld p->Vld q->Vld (mergeP p q)/\∀ e,cf (mergeP p q) e=cf p e+cf q e
|[],q,_,h=>by rw [mergeP_nil'];exact⟨h,fun e=>by rw [cf_nil];grind⟩
|s::p,[],h,_=>by rw [mergeP_nil];exact⟨h,fun e=>by rw [cf_nil];grind⟩
|s::p,t::q,h,h'=>by
  have hp:=h.tail;have hq:=h'.tail;unfold mergeP;split
  ·rename_i hg;obtain⟨h1,h2⟩:=mergeP_ok hp h';refine⟨⟨List.pairwise_cons.2 ⟨mergeP_below (h.1.head) (fun u hu=>?_),h1.1⟩,fun u hu=>?_⟩,fun e=>?_⟩
   ·rcases List.mem_cons.1 hu with rfl|hu
    ·exact hg
    ·exact Ex.gt_trans hg (h'.1.head u hu)
   ·rcases List.mem_cons.1 hu with rfl|hu
    ·exact h.2 _ (by simp)
    ·exact h1.2 u hu
   ·rw [cf_cons,h2,cf_cons (l:=p)];grind
  ·split
   ·rename_i hg;obtain⟨h1,h2⟩:=mergeP_ok h hq;refine⟨⟨List.pairwise_cons.2 ⟨mergeP_below (fun u hu=>?_) (h'.1.head),h1.1⟩,fun u hu=>?_⟩,fun e=>?_⟩
    ·rcases List.mem_cons.1 hu with rfl|hu
     ·exact hg
     ·exact Ex.gt_trans hg (h.1.head u hu)
    ·rcases List.mem_cons.1 hu with rfl|hu
     ·exact h'.2 _ (by simp)
     ·exact h1.2 u hu
    ·rw [cf_cons,h2,cf_cons (l:=q)];grind
   ·rename_i hg1 hg2
    have he:s.1=t.1:=by
     apply Classical.byContradiction;intro hne;exact hg2 (Ex.gt_total (by simpa using hg1) hne)
    obtain⟨h1,h2⟩:=mergeP_ok hp hq;split
    ·rename_i hz;refine⟨h1,fun e=>?_⟩;rw [h2,cf_cons,cf_cons,he];grind
    ·rename_i hz;refine⟨⟨List.pairwise_cons.2 ⟨mergeP_below (h.1.head) (fun u hu=>by rw [he];exact h'.1.head u hu),h1.1⟩,fun u hu=>?_⟩,fun e=>?_⟩
     ·rcases List.mem_cons.1 hu with rfl|hu
      ·exact⟨hz,(h.2 s (by simp)).2⟩
      ·exact h1.2 u hu
     ·rw [cf_cons,h2,cf_cons,cf_cons,he];grind
 termination_by p q=>p.length+q.length
theorem mergeP_eq {p q:List Trm} (hp:Vld p) (hq:Vld q):mergeP p q=addP p q:=by
 obtain⟨h1,h2⟩:=mergeP_ok hp hq;refine h1.inj (canon_val _) fun e=>?_;rw [h2,addP,cf_canon,cf_append];split
 ·rfl
 ·rename_i hn;rw [cf_out (l:=p) (fun t ht he=>hn (by rw [<- he];exact (hp.2 t ht).2)),cf_out (l:=q) (fun t ht he=>hn (by rw [<- he];exact (hq.2 t ht).2))];grind
end Q
end
section
namespace Q
theorem gt_add_both {e f g h:Ex} (h1:e=f\/e.gt f=true) (h2:g=h\/g.gt h=true) (hne:¬ (e=f/\g=h)):(e.add g).gt (f.add h)=true:=by
 rcases h1 with rfl|h1
 ·rcases h2 with rfl|h2
  ·exact absurd ⟨rfl,rfl⟩ hne
  ·rw [Ex.gt_add];exact h2
 ·rcases h2 with rfl|h2
  ·rw [Ex.add_comm e,Ex.add_comm f,Ex.gt_add];exact h1
  ·refine Ex.gt_trans (f:=e.add h) (by rw [Ex.gt_add];exact h2) ?_;rw [Ex.add_comm e,Ex.add_comm f,Ex.gt_add];exact h1
theorem Srt.head_or {s:Trm} {l:List Trm} (h:Srt (s::l)):∀ u∈s::l,s.1=u.1\/s.1.gt u.1=true:=fun u hu=>by
 rcases List.mem_cons.1 hu with rfl|hu
 ·exact .inl rfl
 ·exact .inr (h.head u hu)
theorem cf_prods_head {s t:Trm} {l r:List Trm} (hl:Srt (s::l)) (hr:Srt (t::r)):cf (prods (s::l) (t::r)) (s.1.add t.1)=s.2*t.2:=by
 rw [prods_cons,cf_append,List.map_cons,cf_cons]
 have e1:cf (r.map (mulT s)) (s.1.add t.1)=0:=cf_out fun u hu=>by
  obtain⟨u',hu',rfl⟩:=List.mem_map.1 hu;exact (Ex.gt_ne (gt_add_both (.inl rfl) (.inr (hr.head u' hu')) (fun h=>Ex.gt_ne (hr.head u' hu') h.2))).symm
 have e2:cf (prods l (t::r)) (s.1.add t.1)=0:=cf_out fun u hu=>by
  obtain⟨a,ha,b,hb,rfl⟩:=mem_prods hu;exact (Ex.gt_ne (gt_add_both (.inr (hl.head a ha)) (hr.head_or b hb) (fun h=>Ex.gt_ne (hl.head a ha) h.1))).symm
 rw [e1,e2];simp only [mulT,if_true];grind
theorem mulP_ne {p q:List Trm} (hp:Vld p) (hq:Vld q) (h1:p≠[]) (h2:q≠[]):mulP p q≠[]:=by
 cases p with
|nil=>exact absurd rfl h1
|cons s l=>cases q with
 |nil=>exact absurd rfl h2
 |cons t r =>
   intro h;have hc:=cf_canon (prods (s::l) (t::r)) (s.1.add t.1);rw [show canon (prods (s::l) (t::r))=[] from h,cf_nil,if_pos (Ex.nat_add hp.nat.head hq.nat.head),cf_prods_head hp.1 hq.1] at hc;exact rmul_ne (hp.2 s (by simp)).1 (hq.2 t (by simp)).1 hc.symm
theorem mulP_nil_left (q:List Trm):mulP [] q=[]:=rfl
theorem mulP_nil_right (p:List Trm):mulP p []=[]:=by
 have:prods p []=[]:=by induction p with
 |nil=>rfl
 |cons s l ih=>rw [prods_cons,ih];rfl
 rw [mulP,this];rfl
theorem mulP_nil_iff {p q:List Trm} (hp:Vld p) (hq:Vld q):mulP p q=[]↔p=[]\/q=[]:=by
 constructor
 ·intro h;rcases Classical.em (p=[]) with h1|h1
  ·exact .inl h1
  ·rcases Classical.em (q=[]) with h2|h2
   ·exact .inr h2
   ·exact absurd h (mulP_ne hp hq h1 h2)
 ·rintro (rfl|rfl)
  ·exact mulP_nil_left _
  ·exact mulP_nil_right _
theorem Lf_prods (f:Ex->Rat) (r:List Trm):∀ l:List Trm,Lf f (prods l r)=Lf (fun e=>Lf (fun e'=>f (e.add e')) r) l
|[]=>rfl
|s::l=>by
  rw [prods_cons,Lf_append,Lf_prods f r l,Lf_cons]
  congr 1
  rw [<- Lf_smul];exact Lf_map f (mulT s) (fun e'=>s.2*f (s.1.add e')) r fun t _=>by simp only [mulT];grind
theorem Ex.get_add (e f:Ex) (v:Nat):(e.add f).get v=e.get v+f.get v:=by rcases v with _|_|_|v <;> rfl
theorem Ex.put_add (e f:Ex) (v:Nat):(e.add f).put v 0=(e.put v 0).add (f.put v 0):=by rcases v with _|_|_|v <;> simp [Ex.add,Ex.put]
theorem coeff_prods {p q:List Trm} (v:Nat):Eqv (coeffP (prods p q) v (degP p v+degP q v)) (prods (coeffP p v (degP p v)) (coeffP q v (degP q v))):=fun f=>by
 rw [Lf_coeff,Lf_prods,Lf_prods,Lf_coeff];refine Lf_congr fun s hs=>?_;have h1:=degP_le hs v;split
 ·rename_i he;rw [Lf_coeff];refine Lf_congr fun t ht=>?_;rw [Ex.get_add,Ex.put_add];by_cases h:t.1.get v=degP q v
  ·rw [if_pos h,if_pos (by omega)]
  ·rw [if_neg h,if_neg (by omega)]
 ·rename_i he;rw [Lf_congr (g:=fun _=>0) (fun t ht=>?_),Lf_zero];have h2:=degP_le ht v;rw [Ex.get_add,if_neg (by omega)]
theorem canon_ex {P:Ex->Prop} {l:List Trm} (h:∀ t∈l,P t.1):∀ t∈canon l,P t.1:=by
 have:∀ (l r:List Trm),(∀ t∈l,P t.1)->(∀ t∈r,P t.1)->∀ t∈l.foldl ins r,P t.1:=by
  intro l
  induction l with
 |nil=>exact fun r _ hr=>hr
 |cons m l ih =>
   intro r hl hr;exact ih _ (fun t ht=>hl t (by simp [ht])) (ins_ex hr (hl m (by simp)))
 exact this l [] h (fun t ht=>by cases ht)
theorem Vld.coeff_ne {p:List Trm} (hp:Vld p) (h:p≠[]) (v:Nat):coeffP p v (degP p v)≠[]:=by
 obtain⟨t,ht,e⟩:=degP_mem h hp.nat v;intro hc;have:(t.1.put v 0,t.2)∈coeffP p v (degP p v):=List.mem_map.2 ⟨t,List.mem_filter.2 ⟨ht,by simpa using e⟩,rfl⟩;rw [hc] at this;cases this
theorem degP_mul {p q:List Trm} (hp:Vld p) (hq:Vld q) (h1:p≠[]) (h2:q≠[]) (v:Nat):degP (mulP p q) v=degP p v+degP q v:=by
 have hne:=mulP_ne hp hq h1 h2
 have hle:∀ t∈mulP p q,t.1.get v<=degP p v+degP q v:=canon_ex (P:=fun e=>e.get v<=degP p v+degP q v) fun t ht=>by
  obtain⟨a,ha,b,hb,rfl⟩:=mem_prods ht;have:=degP_le ha v;have:=degP_le hb v;simp only [mulT,Ex.get_add];omega
 obtain⟨t,ht,e⟩:=degP_mem hne (Vld.mul p q).nat v;have hle':=hle t ht
 have hc:coeffP (mulP p q) v (degP p v+degP q v)≠[]:=by
  intro h
  have h3:Eqv (coeffP (mulP p q) v (degP p v+degP q v)) (prods (coeffP p v (degP p v)) (coeffP q v (degP q v))):=fun f=>by
   rw [Lf_coeff,mulP,(canon_eqv (NatL.prods hp.nat hq.nat)) _,<- Lf_coeff];exact coeff_prods v f
  rw [h] at h3;have h4:=mulP_ne (hp.coeff v (degP p v)) (hq.coeff v (degP q v)) (hp.coeff_ne h1 v) (hq.coeff_ne h2 v);exact h4 (show canon _=[] from by rw [<- h3.canon];rfl)
 obtain⟨c,hcm⟩:=List.exists_mem_of_ne_nil _ hc;obtain⟨u,hu,-⟩:=List.mem_map.1 hcm;obtain⟨hu1,hu2⟩:=List.mem_filter.1 hu;have h5:=degP_le hu1 v;have h6:u.1.get v=degP p v+degP q v:=by simpa using hu2
 omega
end Q
end
section
namespace Q
theorem vld_one {e:Ex} {c:Rat} (he:e.nat=true) (hc:c≠0):Vld [(e,c)] :=
 ⟨List.pairwise_singleton _ _,fun t ht=>by rw [List.mem_singleton.1 ht];exact⟨hc,he⟩⟩
theorem Ex.get_put_ne (e:Ex) {x y:Nat} (hx:x<4) (hy:y<4) (h:x≠y) (a:Int):(e.put x a).get y=e.get y:=by
 obtain rfl|rfl|rfl|rfl:x=0\/x=1\/x=2\/x=3:=by omega
 all_goals (obtain rfl|rfl|rfl|rfl:y=0\/y=1\/y=2\/y=3:=by omega) <;> first|rfl|exact absurd rfl h
theorem coeffP_deg (p:List Trm) (v:Nat) (n:Int):degP (coeffP p v n) v<=0:=by
 rcases (foldl_max (fun t=>t.1.get v) (coeffP p v n) (-1)).2.2 with h|⟨t,ht,h⟩
 ·show (coeffP p v n).foldl _ _<=0;rw [h];omega
 ·show (coeffP p v n).foldl _ _<=0;rw [<- h];obtain⟨s,-,rfl⟩:=List.mem_map.1 ht;simp only [Ex.get_put];omega
theorem evalP_deg (p:List Trm) (v:Nat) (c:Rat):degP (evalP p v c) v<=0:=by
 have hz:∀ t∈evalP p v c,t.1.get v=0:=canon_ex (P:=fun e=>e.get v=0) fun t ht=>by
  obtain⟨s,-,rfl⟩:=List.mem_map.1 ht;exact Ex.get_put _ _ _
 rcases (foldl_max (fun t=>t.1.get v) (evalP p v c) (-1)).2.2 with h|⟨t,ht,h⟩
 ·show (evalP p v c).foldl _ _<=0;rw [h];omega
 ·show (evalP p v c).foldl _ _<=0;rw [<- h,hz t ht];omega
theorem Vld.eval (p:List Trm) (v:Nat) (c:Rat):Vld (evalP p v c):=canon_val _
end Q
end
section
namespace Q
structure MP where
 l:List Trm
 v:Vld l
theorem MP.eq_of {p q:MP} (h:p.l=q.l):p=q:=by cases p;cases q;cases h;rfl
def MP.ev (x:Pt) (p:MP):Rat:=Q.ev x p.l
theorem MP.ext' {p q:MP} (h:∀ x,p.ev x=q.ev x):p=q:=MP.eq_of (ev_inj p.v q.v h)
def MP.c (r:Rat):MP:=⟨constP r,Vld.const r⟩
instance:Add MP:=⟨fun p q=>⟨addP p.l q.l,Vld.add _ _⟩⟩
instance:Mul MP:=⟨fun p q=>⟨mulP p.l q.l,Vld.mul _ _⟩⟩
instance:Neg MP:=⟨fun p=>⟨scaleP p.l (-1),p.v.scale _⟩⟩
instance:Sub MP:=⟨fun p q=>⟨subP p.l q.l,Vld.sub _ _⟩⟩
instance:NatCast MP:=⟨fun n=>MP.c n⟩
instance:IntCast MP:=⟨fun n=>MP.c n⟩
instance (n:Nat):OfNat MP n:=⟨MP.c (n:Rat)⟩
instance:SMul Nat MP:=⟨fun n p=>(n:MP)*p⟩
instance:SMul Int MP:=⟨fun n p=>(n:MP)*p⟩
instance:HPow MP Nat MP:=⟨fun p n=>⟨powP p.l n,Vld.pow _ _⟩⟩
theorem MP.ev_add (x:Pt) (p q:MP):(p+q).ev x=p.ev x+q.ev x:=Q.ev_add x p.v.nat q.v.nat
theorem MP.ev_mul (x:Pt) (p q:MP):(p*q).ev x=p.ev x*q.ev x:=Q.ev_mul x p.v.nat q.v.nat
theorem MP.ev_neg (x:Pt) (p:MP):(-p).ev x=- p.ev x:=by have:=Q.ev_scale x p.l (-1);show Q.ev x (scaleP p.l (-1))=- Q.ev x p.l;rw [this];grind
theorem MP.ev_sub (x:Pt) (p q:MP):(p-q).ev x=p.ev x-q.ev x:=Q.ev_sub x p.v.nat q.v
theorem MP.ev_c (x:Pt) (r:Rat):(MP.c r).ev x=r:=ev_const x r
theorem MP.ev_nat (x:Pt) (n:Nat):((n:Nat):MP).ev x=n:=ev_const x _
theorem MP.ev_int (x:Pt) (n:Int):((n:Int):MP).ev x=n:=ev_const x _
theorem MP.ev_ofNat (x:Pt) (n:Nat):(OfNat.ofNat n:MP).ev x=(n:Rat):=ev_const x _
theorem MP.ev_zero (x:Pt):(0:MP).ev x=0:=(ev_const x ((0:Nat):Rat)).trans rfl
theorem MP.ev_one (x:Pt):(1:MP).ev x=1:=(ev_const x ((1:Nat):Rat)).trans rfl
theorem MP.ev_pow (x:Pt) (p:MP) (n:Nat):(p ^ n).ev x=p.ev x ^ n:=Q.ev_pow x p.v.nat n
instance:Lean.Grind.CommRing MP where
 add_zero a:=MP.ext' fun x=>by rw [MP.ev_add,MP.ev_zero];grind
 add_comm a b:=MP.ext' fun x=>by rw [MP.ev_add,MP.ev_add];grind
 add_assoc a b c:=MP.ext' fun x=>by simp only [MP.ev_add];grind
 mul_assoc a b c:=MP.ext' fun x=>by simp only [MP.ev_mul];grind
 mul_one a:=MP.ext' fun x=>by rw [MP.ev_mul,MP.ev_one];grind
 one_mul a:=MP.ext' fun x=>by rw [MP.ev_mul,MP.ev_one];grind
 left_distrib a b c:=MP.ext' fun x=>by simp only [MP.ev_mul,MP.ev_add];grind
 right_distrib a b c:=MP.ext' fun x=>by simp only [MP.ev_mul,MP.ev_add];grind
 zero_mul a:=MP.ext' fun x=>by rw [MP.ev_mul,MP.ev_zero];grind
 mul_zero a:=MP.ext' fun x=>by rw [MP.ev_mul,MP.ev_zero];grind
 pow_zero a:=MP.ext' fun x=>by rw [MP.ev_pow,MP.ev_one,Rat.pow_zero]
 pow_succ a n:=MP.ext' fun x=>by rw [MP.ev_pow,MP.ev_mul,MP.ev_pow,Rat.pow_succ]
 ofNat_succ a:=MP.ext' fun x=>by
  have h:=MP.ev_ofNat x (a+1);have h2:=MP.ev_ofNat x a;rw [MP.ev_add,MP.ev_one,h,h2,Rat.natCast_add];rfl
 ofNat_eq_natCast n:=rfl
 nsmul_eq_natCast_mul n a:=rfl
 neg_add_cancel a:=MP.ext' fun x=>by rw [MP.ev_add,MP.ev_neg,MP.ev_zero];grind
 sub_eq_add_neg a b:=MP.ext' fun x=>by rw [MP.ev_add,MP.ev_neg,MP.ev_sub];grind
 neg_zsmul i a:=MP.ext' fun x=>by
  show MP.ev x (((-i:Int):MP)*a)=MP.ev x (-((i:MP)*a));rw [MP.ev_mul,MP.ev_neg,MP.ev_mul,MP.ev_int,MP.ev_int,Rat.intCast_neg];grind
 zsmul_natCast_eq_nsmul n a:=MP.ext' fun x=>by
  show MP.ev x (((n:Int):MP)*a)=MP.ev x ((n:MP)*a);rw [MP.ev_mul,MP.ev_mul,MP.ev_int,MP.ev_nat,Rat.intCast_natCast]
 intCast_ofNat n:=MP.ext' fun x=>by
  have h:=MP.ev_ofNat x n;rw [h];exact (MP.ev_int x _).trans (Rat.intCast_natCast n)
 intCast_neg i:=MP.ext' fun x=>by rw [MP.ev_int,MP.ev_neg,MP.ev_int,Rat.intCast_neg]
 mul_comm a b:=MP.ext' fun x=>by rw [MP.ev_mul,MP.ev_mul];grind
theorem MP.zero_iff {p:MP}:p=0↔p.l=[]:=⟨fun h=>by rw [h];rfl,fun h=>MP.eq_of (by rw [h];rfl)⟩
theorem MP.mul_eq_zero {p q:MP}:p*q=0↔p=0\/q=0:=by
 rw [MP.zero_iff,MP.zero_iff,MP.zero_iff];exact mulP_nil_iff p.v q.v
theorem MP.mul_ne {p q:MP} (hp:p≠0) (hq:q≠0):p*q≠0:=fun h=>(MP.mul_eq_zero.1 h).elim hp hq
theorem MP.cancel {p q r:MP} (hp:p≠0) (h:p*q=p*r):q=r:=by
 have:p*(q-r)=0:=by grind
 rcases MP.mul_eq_zero.1 this with h|h
 ·exact absurd h hp
 ·grind
theorem MP.one_ne:(1:MP)≠0:=fun h=>by have:=MP.zero_iff.1 h;cases this
def MP.deg (v:Nat) (p:MP):Int:=degP p.l v
def MP.co (v n:Nat) (p:MP):MP:=⟨coeffP p.l v n,p.v.coeff v n⟩
def MP.fr (v:Nat) (p:MP):Prop:=p.deg v<=0
theorem MP.deg_mul {p q:MP} (hp:p≠0) (hq:q≠0) (v:Nat):(p*q).deg v=p.deg v+q.deg v :=
 degP_mul p.v q.v (fun h=>hp (MP.zero_iff.2 h)) (fun h=>hq (MP.zero_iff.2 h)) v
theorem MP.deg_ge (v:Nat) (p:MP):-1<=p.deg v:=degP_ge _ _
theorem MP.deg_pos {p:MP} (hp:p≠0) (v:Nat):0<=p.deg v:=by
 obtain⟨t,ht,e⟩:=degP_mem (fun h=>hp (MP.zero_iff.2 h)) p.v.nat v;show 0<=degP p.l v;rw [<- e];exact Ex.nat_get (p.v.nat t ht) v
theorem MP.deg_zero (v:Nat):(0:MP).deg v=-1:=rfl
theorem MP.fr_get {p:MP} {v:Nat} (h:p.fr v) {t:Trm} (ht:t∈p.l):t.1.get v=0:=by
 have h1:=degP_le ht v;have h2:=Ex.nat_get (p.v.nat t ht) v;have h3:degP p.l v<=0:=h;omega
theorem fr_of {p:MP} {v:Nat} (h:∀ t∈p.l,t.1.get v=0):p.fr v:=by
 rcases (foldl_max (fun t=>t.1.get v) p.l (-1)).2.2 with e|⟨t,ht,e⟩
 ·show degP p.l v<=0;unfold degP;rw [e];omega
 ·show degP p.l v<=0;unfold degP;rw [<- e,h t ht];omega
theorem MP.co_fr (v n:Nat) (p:MP):(p.co v n).fr v:=coeffP_deg _ _ _
theorem eqvM {p q:MP} (h:Eqv p.l q.l):p=q:=MP.eq_of (p.v.eqv_inj q.v h)
theorem MP.lf_add (f:Ex->Rat) (p q:MP):Lf f (p+q).l=Lf f p.l+Lf f q.l:=by
 have:=canon_eqv (p.v.nat.append q.v.nat) f;show Lf f (canon (p.l++q.l))=_;rw [this,Lf_append]
theorem MP.lf_mul (f:Ex->Rat) (p q:MP):Lf f (p*q).l=Lf (fun e=>Lf (fun e'=>f (e.add e')) q.l) p.l:=by
 have:=canon_eqv (p.v.nat.prods q.v.nat) f;show Lf f (canon (prods p.l q.l))=_;rw [this,Lf_prods]
theorem MP.lf_neg (f:Ex->Rat) (p:MP):Lf f (-p).l=- Lf f p.l:=by
 have h:p+-p=0:=by grind
 have:=MP.lf_add f p (-p);rw [h] at this;have e:Lf f (0:MP).l=0:=rfl;rw [e] at this;grind
theorem MP.co_add (v n:Nat) (p q:MP):(p+q).co v n=p.co v n+q.co v n:=eqvM fun f=>by
 rw [MP.lf_add];show Lf f (coeffP _ v n)=Lf f (coeffP _ v n)+Lf f (coeffP _ v n);rw [Lf_coeff,Lf_coeff,Lf_coeff,MP.lf_add]
theorem MP.co_neg (v n:Nat) (p:MP):(-p).co v n=- p.co v n:=eqvM fun f=>by
 rw [MP.lf_neg];show Lf f (coeffP _ v n)=- Lf f (coeffP _ v n);rw [Lf_coeff,Lf_coeff,MP.lf_neg]
theorem MP.co_sub (v n:Nat) (p q:MP):(p-q).co v n=p.co v n-q.co v n:=by
 have h:p-q=p+-q:=by grind
 rw [h,MP.co_add,MP.co_neg];grind
theorem MP.co_mul_fr {d:MP} {v:Nat} (hd:d.fr v) (n:Nat) (p:MP):(d*p).co v n=d*p.co v n:=eqvM fun f=>by
 rw [MP.lf_mul];show Lf f (coeffP _ v n)=_;rw [Lf_coeff,MP.lf_mul];refine Lf_congr fun t ht=>?_;show _=Lf _ (coeffP _ v n);rw [Lf_coeff];refine Lf_congr fun s _=>?_;have e:=MP.fr_get hd ht;rw [Ex.get_add,e,Ex.put_add,show t.1.put v 0=t.1 by rw [<- e,Ex.put_get],Int.zero_add]
def MP.xk (v k:Nat):MP:=⟨[(e0.put v k,1)],vld_one (Ex.put_nat rfl v (by omega)) (by decide)⟩
theorem e0_get (v:Nat):Ex.get e0 v=0:=by rcases v with _|_|_|v <;> rfl
theorem MP.xk_ne (v k:Nat):MP.xk v k≠0:=fun h=>by have:=MP.zero_iff.1 h;cases this
theorem Ex.add_put0 (e:Ex) (v:Nat) (k:Int):((e0.put v k).add e)=e.put v (e.get v+k):=by
 rcases v with _|_|_|v <;> simp [Ex.add,Ex.put,Ex.get,Int.add_comm]
theorem MP.co_xk (v k n:Nat) (p:MP):(MP.xk v k*p).co v n=if k<=n then p.co v (n-k) else 0:=eqvM fun f=>by
 show Lf f (coeffP _ v n)=_;rw [Lf_coeff,MP.lf_mul];show Lf _ [((e0.put v k),(1:Rat))]=_;rw [Lf_cons,Lf_nil];split
 ·rename_i h;show _=Lf f (coeffP _ v _);rw [Lf_coeff]
  have:Lf (fun e'=>if ((e0.put v ↑k).add e').get v=(n:Int) then f (((e0.put v ↑k).add e').put v 0) else 0) p.l=Lf (fun e=>if e.get v=((n-k:Nat):Int) then f (e.put v 0) else 0) p.l:=Lf_congr fun t _=>by
   rw [Ex.add_put0,Ex.get_put,Ex.put_put];by_cases hc:t.1.get v=((n-k:Nat):Int)
   ·rw [if_pos hc,if_pos (by omega)]
   ·rw [if_neg hc,if_neg (by omega)]
  rw [this];grind
 ·rename_i h
  have:Lf (fun e'=>if ((e0.put v ↑k).add e').get v=(n:Int) then f (((e0.put v ↑k).add e').put v 0) else 0) p.l=Lf (fun _=>0) p.l:=Lf_congr fun t ht=>by
   rw [Ex.add_put0,Ex.get_put];have:=Ex.nat_get (p.v.nat t ht) v;rw [if_neg (by omega)]
  rw [this,Lf_zero];show _=(0:Rat);grind
theorem MP.deg_xk (v k:Nat):(MP.xk v k).deg v=k:=by
 show max (-1) ((e0.put v k).get v)=k;rw [Ex.get_put];omega
theorem MP.co_above {p:MP} {v n:Nat} (h:p.deg v<n):p.co v n=0:=by
 rw [MP.zero_iff];show (p.l.filter fun t=>t.1.get v=(n:Int)).map _=[];rw [List.map_eq_nil_iff,List.filter_eq_nil_iff];intro t ht;have:=degP_le ht v;have h':degP p.l v<n:=h;simp;omega
theorem MP.deg_le_of {p:MP} {v:Nat} {k:Int} (hk:-1<=k) (h:∀ n:Nat,k<n->p.co v n=0):p.deg v<=k:=by
 rcases Int.lt_or_le k (p.deg v) with hlt|hle
 ·exfalso
  have hne:p.l≠[]:=fun e=>by
   have:p.deg v=-1:=by show degP p.l v=-1;rw [e];rfl
   omega
  obtain⟨t,ht,e⟩:=degP_mem hne p.v.nat v;have h0:=Ex.nat_get (p.v.nat t ht) v;have hz:=h (t.1.get v).toNat (by rw [e];show k<((degP p.l v).toNat:Int);rw [Int.toNat_of_nonneg (by rw [<- e];exact h0)];exact hlt);rw [MP.zero_iff] at hz;have hz:(p.l.filter fun u=>u.1.get v=((t.1.get v).toNat:Int)).map _=[]:=hz;rw [List.map_eq_nil_iff,List.filter_eq_nil_iff] at hz;exact hz t ht (by simp;omega)
 ·exact hle
def MP.lc (v:Nat) (p:MP):MP:=p.co v (p.deg v).toNat
theorem MP.lc_fr (v:Nat) (p:MP):(p.lc v).fr v:=MP.co_fr _ _ _
theorem MP.lc_ne {p:MP} (hp:p≠0) (v:Nat):p.lc v≠0:=fun h=>by
 rw [MP.zero_iff] at h;have h2:=p.v.coeff_ne (fun e=>hp (MP.zero_iff.2 e)) v;have h3:0<=degP p.l v:=MP.deg_pos hp v;apply h2;have:coeffP p.l v ((degP p.l v).toNat:Int)=[]:=h;rwa [Int.toNat_of_nonneg h3] at this
def msum (f:Nat->MP):Nat->MP
|0=>0
|n+1=>msum f n+f n
theorem ev_msum (x:Pt) (f:Nat->MP):∀ n,(msum f n).ev x=rsum (fun i=>(f i).ev x) n
|0=>MP.ev_zero x
|n+1=>by rw [msum,MP.ev_add,ev_msum x f n];rfl
theorem MP.ev_xk (x:Pt) (v k:Nat):(MP.xk v k).ev x=x.get v ^ k:=by
 show (1:Rat)*mon x (e0.put v k)+0=_
 have:mon x (e0.put v k)=x.get v ^ k:=by
  rcases v with _|_|_|v <;> simp [mon,Ex.put,Pt.get,Rat.pow_zero,Rat.one_mul,Rat.mul_one]
 rw [this];grind
theorem MP.split (v:Nat) (p:MP) {N:Nat} (h:p.deg v<N):p=msum (fun n=>p.co v n*MP.xk v n) N:=MP.ext' fun x=>by
 rw [ev_msum];have:=ev_split x v (x.get v) N p.v.nat (fun t ht=>by have:=degP_le ht v;have h':degP p.l v<N:=h;omega);rw [Pt.put_get] at this;show Q.ev x p.l=_;rw [this];refine rsum_congr fun i _=>?_;rw [MP.ev_mul,MP.ev_xk];rfl
instance:Dvd MP:=⟨fun a b=>∃ c,b=a*c⟩
theorem MP.dvd_refl (a:MP):a∣a:=⟨1,by grind⟩
theorem MP.dvd_trans {a b c:MP} (h:a∣b) (h':b∣c):a∣c:=by
 obtain⟨x,rfl⟩:=h;obtain⟨y,rfl⟩:=h';exact⟨x*y,by grind⟩
theorem MP.dvd_mul_right (a b:MP):a∣a*b:=⟨b,rfl⟩
theorem MP.dvd_mul_left (a b:MP):a∣b*a:=⟨b,by grind⟩
theorem MP.dvd_zero (a:MP):a∣0:=⟨0,by grind⟩
theorem MP.zero_dvd {a:MP} (h:(0:MP)∣a):a=0:=by obtain⟨x,rfl⟩:=h;grind
theorem MP.dvd_add {a b c:MP} (h:a∣b) (h':a∣c):a∣b+c:=by
 obtain⟨x,rfl⟩:=h;obtain⟨y,rfl⟩:=h';exact⟨x+y,by grind⟩
theorem MP.dvd_sub {a b c:MP} (h:a∣b) (h':a∣c):a∣b-c:=by
 obtain⟨x,rfl⟩:=h;obtain⟨y,rfl⟩:=h';exact⟨x - y,by grind⟩
theorem MP.dvd_mul_of {a b:MP} (h:a∣b) (c:MP):a∣b*c:=by obtain⟨x,rfl⟩:=h;exact⟨x*c,by grind⟩
theorem MP.dvd_mul_of' {a b:MP} (h:a∣b) (c:MP):a∣c*b:=by obtain⟨x,rfl⟩:=h;exact⟨c*x,by grind⟩
theorem MP.mul_dvd {a b c d:MP} (h:a∣b) (h':c∣d):a*c∣b*d:=by
 obtain⟨x,rfl⟩:=h;obtain⟨y,rfl⟩:=h';exact⟨x*y,by grind⟩
theorem MP.dvd_cancel {a b c:MP} (ha:a≠0) (h:a*b∣a*c):b∣c:=by
 obtain⟨x,e⟩:=h;exact⟨x,MP.cancel ha (by rw [e];grind)⟩
theorem MP.dvd_ne {a b:MP} (hb:b≠0) (h:a∣b):a≠0:=fun e=>hb (MP.zero_dvd (e ▸ h))
theorem MP.dvd_deg {a b:MP} (hb:b≠0) (h:a∣b) (v:Nat):a.deg v<=b.deg v:=by
 obtain⟨x,rfl⟩:=h;have ha:a≠0:=fun e=>hb (by rw [e];grind);have hx:x≠0:=fun e=>hb (by rw [e];grind);have:=MP.deg_pos hx v;rw [MP.deg_mul ha hx];omega
theorem MP.dvd_msum {a:MP} {f:Nat->MP}:∀ {n:Nat},(∀ i,i<n->a∣f i)->a∣msum f n
|0,_=>MP.dvd_zero a
|n+1,h=>MP.dvd_add (MP.dvd_msum fun i hi=>h i (by omega)) (h n (by omega))
theorem MP.dvd_iff_co {d:MP} {v:Nat} (hd:d.fr v) (p:MP):d∣p↔∀ n,d∣p.co v n:=by
 constructor
 ·rintro⟨q,rfl⟩ n;rw [MP.co_mul_fr hd];exact MP.dvd_mul_right _ _
 ·intro h;rw [MP.split v p (N:=(p.deg v).toNat+1) (by have:=MP.deg_ge v p;omega)];exact MP.dvd_msum fun i _=>MP.dvd_mul_of (h i) _
def MP.unit (a:MP):Prop:=a∣1
theorem MP.unit_dvd {a:MP} (h:a.unit) (b:MP):a∣b:=by obtain⟨x,e⟩:=h;exact⟨x*b,by grind⟩
theorem MP.unit_of_dvd {a b:MP} (h:a∣b) (hb:b.unit):a.unit:=MP.dvd_trans h hb
theorem MP.unit_one:(1:MP).unit:=MP.dvd_refl 1
theorem MP.unit_cancel {a u:MP} (ha:a≠0) (h:a*u∣a):u.unit:=by
 refine MP.dvd_cancel ha (c:=1) ?_;have e:a*1=a:=by grind
 rw [e];exact h
end Q
end
