/- A region that draws its order, by rW on its operations' values: no program in sight. -/
import Derived.Test.YtopclbeomcggiaaGreatW02
import Derived.Deep.MidRow
set_option linter.unusedVariables false
set_option linter.unusedSimpArgs false
set_option maxHeartbeats 16000000
set_option maxRecDepth 100000
namespace Q
open Go Go.RowKit
def bF (ops:List Oper) (i:Nat):Option Tmp:=(ops[i]?).bind (·.dst)
def OV (ops:List Oper) (k:Nat) (t:Tmp):Bool:=(List.range k).any fun j=>bF ops j == some t
theorem OW {ops:List Oper} {k:Nat} {t:Tmp} (h:OV ops k t=false) (j:Nat) (hj:j<k):bF ops j≠some t:=by
 intro hc;have:OV ops k t=true:=List.any_eq_true.2 ⟨j,List.mem_range.2 hj,by rw [hc];exact beq_self_eq_true _⟩;rw [h] at this;cases this
def bv (ops:List Oper) (vs:Nat->Value) (p:Nat->Bool):Nat->Act->Act
 | 0,a=>a
 | k+1,a=>if p k then (bv ops vs p k a).put (bF ops k) (vs k) else bv ops vs p k a
def nQ (ops:List Oper) (φ:Nat->Value->World->Prop) (A:Act) (w:World):List Edge->Prop
 | []=>True
 | e::es=>(Region.binds .any e=true->φ e.on (A.eval (.tmp ((bF ops e.on).getD 0))) w)/\nQ ops φ A w es
def OX (P:Program) (ops:List Oper) (φ:Nat->Value->World->Prop) (k:Nat) (Q:Exit->Act->World->Prop) (a:Act) (w0:World) (i:Nat) (o:Oper):Prop :=
 ∀ A w,(∀ t,OV ops k t=false->A.eval (.tmp t)=a.eval (.tmp t))->Below w0.heap.size w0 w->nQ ops φ A w o.after.toList ->
  o.wp P A w (fun A' w'=>∃ v,A'=A.put o.dst v/\Below w.heap.size w w'/\φ i v w') Q
def tT (P:Program) (ops:List Oper) (φ:Nat->Value->World->Prop) (k:Nat) (Q:Exit->Act->World->Prop) (a:Act) (w0:World):Nat->List Oper->Prop
 | _,[]=>True
 | i,o::r=>OX P ops φ k Q a w0 i o/\tT P ops φ k Q a w0 (i+1) r
theorem tT.get {P:Program} {ops:List Oper} {φ:Nat->Value->World->Prop} {k:Nat} {Q:Exit->Act->World->Prop} {a:Act} {w0:World} :
  ∀ {l:List Oper} {i j:Nat} {o:Oper},tT P ops φ k Q a w0 i l->l[j]?=some o->OX P ops φ k Q a w0 (i+j) o
 | [],_,_,_,_,h=>by simp at h
 | x::r,i,0,o,h,ho=>by simp at ho;subst ho;exact h.1
 | x::r,i,j+1,o,h,ho=>by
  have:=h.2.get (j:=j) (by simpa using ho);rw [show i+(j+1)=i+1+j by omega];exact this
def rW (φ:Nat->Value->World->Prop) (vs:Nat->Value) (w:World):Nat->Prop
 | 0=>True
 | k+1=>rW φ vs w k/\φ k (vs k) w
theorem qx {φ:Nat->Value->World->Prop} {vs:Nat->Value} {w:World}:∀ k,(∀ i,i<k->φ i (vs i) w)->rW φ vs w k
 | 0,_=>trivial
 | k+1,h=>⟨qx k (fun i hi=>h i (by omega)),h k (by omega)⟩
def jB (ops:List Oper) (k:Nat):Bool :=
 decide (k<=ops.length) &&
 (List.range k).all (fun i=>match ops[i]? with
  | some o=>o.guard.isNone && o.dst.isSome && o.after.toList.all (fun e=>decide (e.on<i) || !Region.binds .any e) && (List.range i).all (fun j=>bF ops j != o.dst)
  | none=>false) &&
 (List.range (ops.length-k)).all (fun d=>match ops[k+d]? with
  | some o=>o.after.toList.all (fun e=>decide (e.on<k+d) || !Region.binds .any e) && (List.range (k+d)).all (fun j=>reaches ops (k+d) j (ops.length+1) (o.after.toList))
  | none=>false)
where
 reaches (ops:List Oper) (_n j:Nat):Nat->List Edge->Bool
  | 0,_=>false
  | f+1,es=>es.any fun e=>Region.binds .any e && (e.on == j || (match ops[e.on]? with|some o=>reaches ops _n j f o.after.toList|none=>false))
end Q
namespace Q
open Go Go.RowKit
section
variable {P:Program} {ops:List Oper} {φ:Nat->Value->World->Prop} {k:Nat} {Q:Exit->Act->World->Prop} {a:Act} {w0:World}
theorem kY (h:jB ops k=true) {i:Nat} (hi:i<k) :
  ∃ o,ops[i]?=some o/\o.guard=none/\(∃ d,o.dst=some d)/\(∀ e∈o.after,Region.binds .any e=true->e.on<i)/\∀ j,j<i->bF ops j≠o.dst:=by
 simp only [jB,Bool.and_eq_true,List.all_eq_true,List.mem_range] at h;have:=h.1.2 i hi;split at this
 ·rename_i o ho;simp only [Bool.and_eq_true,List.all_eq_true,Option.isNone_iff_eq_none,List.mem_range,bne_iff_ne] at this;obtain⟨⟨⟨h1,h2⟩,h3⟩,h4⟩:=this;refine⟨o,ho,h1,Option.isSome_iff_exists.1 h2,fun e he hb=>?_,fun j hj=>h4 j hj⟩;have:=h3 e (by simpa using he);simp [hb] at this;exact this
 ·cases this
theorem zZ (h:jB ops k=true):k<=ops.length:=by
 simp only [jB,Bool.and_eq_true] at h;simpa using h.1.1
theorem oo {listed:Array Bool} (hcl:∀ i o,listed.getD i false=true->ops[i]?=some o->∀ e∈o.after,Region.binds .any e=true->listed.getD e.on false=true) {n j:Nat} :
  ∀ (f:Nat) (es:List Edge),(∀ e∈es,Region.binds .any e=true->listed.getD e.on false=true)->jB.reaches ops n j f es=true->listed.getD j false=true
 | 0,_,_,h=>by simp [jB.reaches] at h
 | f+1,es,hes,h=>by
  simp only [jB.reaches,List.any_eq_true,Bool.and_eq_true,Bool.or_eq_true,beq_iff_eq] at h;obtain⟨e,he,hb,h⟩:=h;have hl:=hes e he hb;rcases h with h|h
  ·rw [<- h];exact hl
  ·split at h
   ·rename_i o ho;exact oo hcl f _ (fun e' he' hb'=>hcl e.on o hl ho e' (by simpa using he') hb') h
   ·cases h
theorem qV (h:jB ops k=true) {i:Nat} (hi:k<=i) (hlt:i<ops.length) :
  ∃ o,ops[i]?=some o/\(∀ e∈o.after,Region.binds .any e=true->e.on<i)/\∀ j,j<i->jB.reaches ops i j (ops.length+1) o.after.toList=true:=by
 simp only [jB,Bool.and_eq_true,List.all_eq_true,List.mem_range] at h;have:=h.2 (i-k) (by omega);rw [show k+(i-k)=i by omega] at this;split at this
 ·rename_i o ho;simp only [Bool.and_eq_true,List.all_eq_true,List.mem_range] at this;refine⟨o,ho,fun e he hb=>?_,fun j hj=>this.2 j hj⟩;have:=this.1 e (by simpa using he);simp [hb] at this;exact this
 ·cases this
theorem mK {vs:Nat->Value} {p:Nat->Bool} {t:Tmp} :
  ∀ n,(∀ j,j<n->p j=true->bF ops j≠some t)->(bv ops vs p n a).eval (.tmp t)=a.eval (.tmp t)
 | 0,_=>rfl
 | n+1,h=>by
  unfold bv;split
  ·rename_i hp;rw [Act.eval_put (fun d hd he=>h n (by omega) hp (by rw [hd];simpa using he.symm))];exact mK n (fun j hj=>h j (by omega))
  ·exact mK n (fun j hj=>h j (by omega))
theorem gB {vs vs':Nat->Value} {p p':Nat->Bool}:∀ n,(∀ j,j<n->p j=p' j)->(∀ j,j<n->p j=true->vs j=vs' j)->bv ops vs p n a=bv ops vs' p' n a
 | 0,_,_=>rfl
 | n+1,h,hv=>by
  unfold bv;rw [<- h n (by omega),gB n (fun j hj=>h j (by omega)) (fun j hj=>hv j (by omega))];split
  ·rename_i hp;rw [hv n (by omega) hp]
  ·rfl
theorem uL {vs:Nat->Value} {p:Nat->Bool} {i:Nat} {v:Value} (hp:p i=false) (hd:∀ j,j<k->j≠i->bF ops i≠none->bF ops j≠bF ops i) (hs:∃ d,bF ops i=some d) :
  ∀ n,i<n->n<=k->bv ops (fun j=>if j=i then v else vs j) (fun j=>p j || j == i) n a=(bv ops vs p n a).put (bF ops i) v
 | 0,h,_=>by omega
 | n+1,h,hk=>by
  obtain⟨d,hds⟩:=hs;by_cases hin:i=n
  ·subst hin
   have e:bv ops (fun j=>if j=i then v else vs j) (fun j=>p j || j == i) i a=bv ops vs p i a :=
    gB i (fun j hj=>by simp;omega) (fun j hj _=>by simp;omega)
   simp only [bv,e,hp,beq_self_eq_true,Bool.or_true,if_true,Bool.false_eq_true,if_false]
  ·have ih:=uL (vs:=vs) (v:=v) hp hd ⟨d,hds⟩ n (by omega) (by omega);have e1:(n == i)=false:=by simp;omega
   simp only [bv,ih,e1,Bool.or_false,if_neg (show ¬ n=i by omega)];split
   ·rw [Act.put_comm _ _ _ (fun d' h' h''=>hd n (by omega) (by omega) (by rw [hds];simp) (by rw [h',h'']))]
   ·rfl
theorem OY (A:Act) (d:Option Tmp) (v:Value):(A.put d v).tmps.size=A.tmps.size:=by cases d <;> simp [Act.put]
theorem rX {vs:Nat->Value} {p:Nat->Bool}:∀ n,(bv ops vs p n a).tmps.size=a.tmps.size
 | 0=>rfl
 | n+1=>by
  unfold bv;split
  ·rw [OY,rX n]
  ·exact rX n
theorem qW {vs:Nat->Value} {p:Nat->Bool} {i:Nat} {d:Tmp} (hd:bF ops i=some d) (hdist:∀ j,j<k->j≠i->bF ops j≠some d) (hp:p i=true) (hsz:d<a.tmps.size) :
  ∀ n,i<n->n<=k->(bv ops vs p n a).eval (.tmp d)=vs i
 | 0,h,_=>by omega
 | n+1,h,hk=>by
  by_cases hin:i=n
  ·subst hin;simp only [bv,hp,if_true,hd];simp [Act.eval,Act.put,Array.getD_eq_getD_getElem?,rX,hsz]
  ·have ih:=qW (vs:=vs) (p:=p) hd hdist hp hsz n (by omega) (by omega);unfold bv;split
   ·rw [Act.eval_put (fun d' h' he=>hdist n (by omega) (by omega) (by rw [h'];simpa using he.symm))];exact ih
   ·exact ih
def left (n:Nat) (listed:Array Bool):Nat:=((List.range n).filter fun i=>!listed.getD i true).length
theorem Gl {n:Nat} {listed:Array Bool} {i:Nat} (hn:listed.size=n) (hi:listed.getD i true=false):left n (listed.setIfInBounds i true)<left n listed:=by
 have hlt:i<n:=by
  rcases Nat.lt_or_ge i n with h|h
  ·exact h
  ·rw [Array.getD_eq_getD_getElem?,Array.getElem?_eq_none (by omega)] at hi;cases hi
 unfold left
 have hsub:((List.range n).filter fun j=>!(listed.setIfInBounds i true).getD j true)=(((List.range n).filter fun j=>!listed.getD j true).filter fun j=>j != i):=by
  rw [List.filter_filter];apply List.filter_congr;intro j _;by_cases hij:i=j
  ·subst hij;simp [Array.getD_eq_getD_getElem?,hn,hlt]
  ·rw [getD_set_ne _ hij];simp [Ne.symm hij]
 rw [hsub]
 have hmem:i∈((List.range n).filter fun j=>!listed.getD j true):=by
  rw [List.mem_filter];exact⟨List.mem_range.2 hlt,by rw [hi];rfl⟩
 exact List.length_filter_lt_length_iff_exists.2 ⟨i,hmem,by simp⟩
theorem tV {n:Nat} {listed:Array Bool} (h:left n listed=0) {i:Nat} (hi:i<n):listed.getD i true=true:=by
 unfold left at h;have:=List.eq_nil_of_length_eq_zero h;rw [List.filter_eq_nil_iff] at this;have:=this i (List.mem_range.2 hi);simpa using this
theorem fF {listed:Array Bool} {i:Nat} (hi:i<listed.size):listed.getD i true=listed.getD i false:=by
 simp [Array.getD_eq_getD_getElem?,Array.getElem?_eq_getElem hi]
end
end Q
namespace Q
open Go Go.RowKit
section
variable {P:Program} {ops:List Oper} {φ:Nat->Value->World->Prop} {k:Nat} {Q:Exit->Act->World->Prop} {a:Act} {w0:World}
theorem gQ (i:Nat):ops.toArray[i]?=ops[i]?:=by simp
theorem Gm (hs:jB ops k=true):∀ (fuel i:Nat) (listed:Array Bool) (A:Act) (w:World),k<=i->i<=ops.length->listed.size=ops.length ->
  (∀ j,j<i->listed.getD j false=true)->(∀ j,i<=j->listed.getD j false=false)->ops.length-i<=fuel->wpList P ops.toArray Q (ops.drop i) A w ->
  wpAny P .any ops.toArray Q fuel listed A w:=by
 intro fuel
 induction fuel with
 | zero =>
  intro i listed A w hki hi hsz hin hout hf h;have:i=ops.length:=by omega
  subst this;rw [List.drop_of_length_le (Nat.le_refl _)] at h;refine⟨?_,h⟩;rw [List.eq_nil_iff_forall_not_mem];intro j hj;obtain⟨h0,o,ho,_⟩:=mem_ready.1 hj
  have hlt:j<ops.length:=by
   rw [gQ] at ho;exact (List.getElem?_eq_some_iff.1 ho).1
  rw [fF (by omega),hin j hlt] at h0;cases h0
 | succ fuel ih =>
  intro i listed A w hki hi hsz hin hout hf h;by_cases hend:i=ops.length
  ·subst hend;rw [List.drop_of_length_le (Nat.le_refl _)] at h;refine⟨fun _=>h,fun j hj=>?_⟩;obtain⟨h0,o,ho,_⟩:=mem_ready.1 hj
   have hlt:j<ops.length:=by
    rw [gQ] at ho;exact (List.getElem?_eq_some_iff.1 ho).1
   rw [fF (by omega),hin j hlt] at h0;cases h0
  ·have hlt:i<ops.length:=by omega
   obtain⟨o,ho,hedge,hreach⟩:=qV hs hki hlt
   have hready:i∈Region.ready .any ops.toArray listed:=by
    refine mem_ready.2 ⟨by rw [fF (by omega)];exact hout i (Nat.le_refl _),o,by rw [gQ];exact ho,fun e he hb=>hin _ (hedge e he hb)⟩
   refine⟨fun hn=>(by rw [hn] at hready;cases hready),fun j hj=>?_⟩;obtain⟨h0,oj,hoj,hall⟩:=mem_ready.1 hj;rw [gQ] at hoj;have hjlt:j<ops.length:=(List.getElem?_eq_some_iff.1 hoj).1;rw [fF (by omega)] at h0
   have hij:i<=j:=by
    rcases Nat.lt_or_ge j i with h'|h'
    ·rw [hin j h'] at h0;cases h0
    ·exact h'
   have hji:j=i:=by
    rcases Nat.eq_or_lt_of_le hij with h'|h'
    ·exact h'.symm
    ·exfalso;obtain⟨oj',hoj',hedge',hreach'⟩:=qV hs (show k<=j by omega) hjlt
     have hcl:∀ i' o',listed.getD i' false=true->ops[i']?=some o'->∀ e∈o'.after,Region.binds .any e=true->listed.getD e.on false=true:=by
      intro i' o' hl' ho' e he hb
      have hi'i:i' < i:=by
       rcases Nat.lt_or_ge i' i with h''|h''
       ·exact h''
       ·rw [hout i' h''] at hl';cases hl'
      apply hin;by_cases hk':i' < k
      ·obtain⟨o'',ho'',_,_,he'',_⟩:=kY hs hk';rw [ho'] at ho'';cases ho'';have:=he'' e he hb;omega
      ·obtain⟨o'',ho'',he'',_⟩:=qV hs (show k<=i' by omega) (by omega);rw [ho'] at ho'';cases ho'';have:=he'' e he hb;omega
     rw [hoj] at hoj';cases hoj';have:=oo hcl _ _ (fun e he hb=>hall e (by simpa using he) hb) (hreach' i h');rw [hout i (Nat.le_refl _)] at this;cases this
   subst hji
   have hd:ops.drop j=oj::ops.drop (j+1):=by
    rw [List.drop_eq_getElem_cons hjlt]
    congr 1
    rw [List.getElem?_eq_getElem hjlt] at hoj;exact Option.some.inj hoj
   rw [hd] at h
   have hih:∀ A w,wpList P ops.toArray Q (ops.drop (j+1)) A w->wpAny P .any ops.toArray Q fuel (listed.setIfInBounds j true) A w:=by
    intro A w h;refine ih (j+1) _ A w (by omega) (by omega) (by simpa using hsz) ?_ ?_ (by omega) h
    ·intro m hm;by_cases hmj:m=j
     ·subst hmj;simp [Array.getD_eq_getD_getElem?,hsz,hjlt]
     ·rw [getD_set_ne _ (Ne.symm hmj)];exact hin m (by omega)
    ·intro m hm;rw [getD_set_ne _ (by omega)];exact hout m (by omega)
   unfold wpOp;rw [gQ,hoj];simp only;unfold wpList at h;split
   ·rename_i hw;rw [if_pos hw] at h;exact h.imp (Oper.wp_mono hih) id
   ·rename_i hw;rw [if_neg hw] at h;exact hih _ _ h
theorem M9 (hs:jB ops k=true) (hin:∀ i,i<k->∀ d,bF ops i=some d->d<a.tmps.size) (hmono:∀ i,i<k->∀ v w w',Below w.heap.size w w'->φ i v w->φ i v w') (hsteps:tT P ops φ k Q a w0 0 (ops.take k))
  (htail:∀ vs w',Below w0.heap.size w0 w'->rW φ vs w' k->wpList P ops.toArray Q (ops.drop k) (bv ops vs (fun _=>true) k a) w') :
  ∀ (fuel:Nat) (listed:Array Bool) (vs:Nat->Value) (w:World),listed.size=ops.length ->
   (∀ i o,listed.getD i false=true->ops[i]?=some o->∀ e∈o.after,Region.binds .any e=true->listed.getD e.on false=true) ->
   (∀ j,k<=j->listed.getD j false=false)->Below w0.heap.size w0 w->(∀ i,i<k->listed.getD i false=true->φ i (vs i) w)->left ops.length listed<=fuel ->
   wpAny P .any ops.toArray Q fuel listed (bv ops vs (fun j=>listed.getD j false) k a) w:=by
 intro fuel
 induction fuel with
 | zero =>
  intro listed vs w hsz hcl hout hb hφ hf;have hk:=zZ hs
  have hk0:k=ops.length:=by
   rcases Nat.eq_or_lt_of_le hk with h|h
   ·exact h
   ·have:=tV (by omega:left ops.length listed=0) (i:=k) h;rw [fF (by omega),hout k (Nat.le_refl _)] at this;cases this
  have hall:∀ j,j<k->listed.getD j false=true:=fun j hj=>by
   have:=tV (by omega:left ops.length listed=0) (i:=j) (by omega);rwa [fF (by omega)] at this
  refine Gm hs 0 k listed _ w (Nat.le_refl _) hk hsz hall hout (by omega) ?_;have:=htail vs w hb (qx k (fun i hi=>hφ i hi (hall i hi)));rwa [gB (vs':=vs) (p':=fun j=>listed.getD j false) k (fun j hj=>(hall j hj).symm) (fun j _ _=>rfl)] at this
 | succ fuel ih =>
  intro listed vs w hsz hcl hout hb hφ hf;have hk:=zZ hs;by_cases hall:∀ j,j<k->listed.getD j false=true
  ·have hleft:ops.length-k<=fuel+1:=by
    have:ops.length-k<=left ops.length listed:=by
     unfold left
     have hsub:((List.range' k (ops.length-k))).Sublist ((List.range ops.length).filter fun i=>!listed.getD i true):=by
      have h1:(List.range' k (ops.length-k)).filter (fun i=>!listed.getD i true)=List.range' k (ops.length-k):=by
       rw [List.filter_eq_self];intro j hj;simp only [List.mem_range'_1] at hj;rw [fF (by omega),hout j (by omega)];rfl
      rw [<- h1];apply List.Sublist.filter;rw [List.range_eq_range']
      have h2:List.range' 0 ops.length=List.range' 0 k++List.range' k (ops.length-k):=by
       have:=List.range'_append (s:=0) (m:=k) (n:=ops.length-k) (step:=1);simp only [Nat.one_mul,Nat.zero_add] at this;rw [this];congr 1;omega
      rw [h2];exact List.sublist_append_right _ _
     simpa using hsub.length_le
    omega
   refine Gm hs _ k listed _ w (Nat.le_refl _) hk hsz hall hout hleft ?_;have:=htail vs w hb (qx k (fun i hi=>hφ i hi (hall i hi)));rwa [gB (vs':=vs) (p':=fun j=>listed.getD j false) k (fun j hj=>(hall j hj).symm) (fun j _ _=>rfl)] at this
  ·have hex:∃ j,j<k/\listed.getD j false=false:=by
    apply Classical.byContradiction;intro hno;apply hall;intro j hj;cases hq:listed.getD j false
    ·exact absurd ⟨j,hj,hq⟩ hno
    ·rfl
   -- the least that has not come up is ready
   have hready:∃ j,j∈Region.ready .any ops.toArray listed:=by
    have hwf:∀ n,∀ j,j<=n->j<k->listed.getD j false=false->∃ j,j∈Region.ready .any ops.toArray listed:=by
     intro n
     induction n with
     | zero =>
      intro j hj hjk hjl;obtain⟨o,ho,_,_,hed,_⟩:=kY hs hjk;refine⟨j,mem_ready.2 ⟨by rw [fF (by omega)];exact hjl,o,by rw [gQ];exact ho,fun e he hbd=>?_⟩⟩;have:=hed e he hbd;omega
     | succ n ihn =>
      intro j hj hjk hjl;obtain⟨o,ho,_,_,hed,_⟩:=kY hs hjk;by_cases hp:∀ e∈o.after,Region.binds .any e=true->listed.getD e.on false=true
      ·exact⟨j,mem_ready.2 ⟨by rw [fF (by omega)];exact hjl,o,by rw [gQ];exact ho,hp⟩⟩
      ·have:∃ e,e∈o.after/\Region.binds .any e=true/\listed.getD e.on false=false:=by
        apply Classical.byContradiction;intro hno;apply hp;intro e he hbd;cases hq:listed.getD e.on false
        ·exact absurd ⟨e,he,hbd,hq⟩ hno
        ·rfl
       obtain⟨e,he,hbd,hq⟩:=this;have:=hed e he hbd;exact ihn e.on (by omega) (by omega) hq
    obtain⟨j,hj,hl⟩:=hex;exact hwf j j (Nat.le_refl _) hj hl
   refine⟨fun hn=>(by obtain⟨j,hj⟩:=hready;rw [hn] at hj;cases hj),fun i hi=>?_⟩;obtain⟨h0,o,ho,hpre⟩:=mem_ready.1 hi;rw [gQ] at ho;have hilt:i<ops.length:=(List.getElem?_eq_some_iff.1 ho).1;rw [fF (by omega)] at h0
   have hik:i<k:=by
    rcases Nat.lt_or_ge i k with h|h
    ·exact h
    ·exfalso;obtain⟨o',ho',_,hreach⟩:=qV hs h hilt;rw [ho] at ho';cases ho';apply hall;intro j hj;exact oo hcl _ _ (fun e he hbd=>hpre e (by simpa using he) hbd) (hreach j (by omega))
   obtain⟨o',ho',hg,⟨d,hd⟩,hed,hdist⟩:=kY hs hik;rw [ho] at ho';cases ho';have hst:=hsteps.get (j:=i) (o:=o) (by rw [List.getElem?_take,if_pos hik];exact ho);rw [Nat.zero_add] at hst;have hdi:bF ops i=o.dst:=by simp [bF,ho]
   have hdd:∀ j,j<k->j≠i->bF ops i≠none->bF ops j≠bF ops i:=by
    intro j hj hji _;rcases Nat.lt_or_ge j i with h|h
    ·rw [hdi];exact hdist j h
    ·obtain⟨o2,ho2,_,_,_,hdist2⟩:=kY hs hj;have:=hdist2 i (by omega);have e2:bF ops j=o2.dst:=by simp [bF,ho2]
     rw [e2];exact fun h=>this h.symm
   have hrun:=hst (bv ops vs (fun j=>listed.getD j false) k a) w (fun t ht=>mK k (fun j hj _=>OW ht j hj)) hb (by
    have:∀ es:List Edge,(∀ e∈es,Region.binds .any e=true->e.on<i/\listed.getD e.on false=true)->nQ ops φ (bv ops vs (fun j=>listed.getD j false) k a) w es:=by
     intro es
     induction es with
     | nil=>intro _;trivial
     | cons e es ihe =>
      intro h;refine⟨fun hbd=>?_,ihe (fun e' he'=>h e' (by simp [he']))⟩;obtain⟨hlt,hl⟩:=h e (by simp) hbd;obtain⟨oe,hoe,_,⟨de,hde⟩,_,hdiste⟩:=kY hs (show e.on<k by omega);have e1:bF ops e.on=some de:=by simp [bF,hoe,hde]
      rw [e1];simp only [Option.getD_some];rw [qW e1 (fun j hj hji=>?_) hl (hin e.on (by omega) de e1) k (by omega) (Nat.le_refl _)]
      ·exact hφ e.on (by omega) hl
      ·intro hc;rcases Nat.lt_or_ge j e.on with hje|hje
       ·exact hdiste j hje (by rw [hc,hde])
       ·obtain⟨o2,ho2,_,_,_,hdist2⟩:=kY hs hj;exact hdist2 e.on (by omega) (by rw [e1,<- hc];simp [bF,ho2])
    exact this _ (fun e he hbd=>⟨hed e (by simpa using he) hbd,hpre e (by simpa using he) hbd⟩))
   unfold wpOp;rw [gQ,ho];simp only;rw [if_pos (by simp [Region.wanted,hg])];left;refine Oper.wp_mono ?_ hrun;rintro A' w' ⟨v,rfl,hbw,hφv⟩;have hnl:listed.getD i false=false:=h0;have hput:=uL (a:=a) (vs:=vs) (v:=v) (p:=fun j=>listed.getD j false) hnl hdd ⟨d,by rw [hdi,hd]⟩ k hik (Nat.le_refl _);rw [<- hdi,<- hput]
   have hpc:bv ops (fun j=>if j=i then v else vs j) (fun j=>listed.getD j false || j == i) k a=bv ops (fun j=>if j=i then v else vs j) (fun j=>(listed.setIfInBounds i true).getD j false) k a:=by
    refine gB k (fun j hj=>?_) (fun j _ _=>rfl);by_cases hji:j=i
    ·subst hji;simp [Array.getD_eq_getD_getElem?,hsz,hilt]
    ·rw [getD_set_ne _ (Ne.symm hji)];have:(j == i)=false:=by simpa using hji
     rw [this,Bool.or_false]
   rw [hpc]
   have hset:∀ j,(listed.setIfInBounds i true).getD j false=true->j=i\/listed.getD j false=true:=fun j hj=>by
    by_cases hji:j=i
    ·exact .inl hji
    ·rw [getD_set_ne _ (Ne.symm hji)] at hj;exact .inr hj
   refine ih _ _ _ (by simpa using hsz) ?_ ?_ (hb.trans (hbw.mono hb.size)) ?_ ?_
   ·intro i' o' hl' ho' e he hbd;rcases hset i' hl' with h|h
    ·subst h;rw [ho] at ho';cases ho';exact getD_set_true (hpre e he hbd)
    ·exact getD_set_true (hcl i' o' h ho' e he hbd)
   ·intro j hj;rw [getD_set_ne _ (by omega)];exact hout j hj
   ·intro j hj hl;rcases hset j hl with h|h
    ·subst h;simpa using hφv
    ·by_cases hji:j=i
     ·subst hji;simpa using hφv
     ·simp only [if_neg hji];exact hmono j hj _ _ _ hbw (hφ j hj h)
   ·have:=Gl hsz (i:=i) (by rw [fF (by omega)];exact h0);omega
theorem zn {id:Nat} (hm:P.follows .mixedOrders=true) (φ:Nat->Value->World->Prop) (k:Nat) (hs:jB ops k=true)
  (hin:((List.range k).all fun i=>match bF ops i with|some d=>decide (d<a.tmps.size)|none=>true)=true)
  (hmono:∀ i,i<k->∀ v w w',Below w.heap.size w w'->φ i v w->φ i v w') (hsteps:tT P ops φ k Q a w0 0 (ops.take k))
  (htail:∀ vs w',Below w0.heap.size w0 w'->rW φ vs w' k->wpList P ops.toArray Q (ops.drop k) (bv ops vs (fun _=>true) k a) w') :
  (Code.region id ops.toArray true).wp P Q a w0:=by
 refine wp_region_any hm ?_
 have hin':∀ i,i<k->∀ d,bF ops i=some d->d<a.tmps.size:=fun i hi d hd=>by
  have:=List.all_eq_true.1 hin i (List.mem_range.2 hi);rw [hd] at this;simpa using this
 have h0:∀ j,(Array.replicate ops.length false).getD j false=false:=fun j=>by
  simp [Array.getD_eq_getD_getElem?,Array.getElem?_replicate];split <;> rfl
 have:=M9 (P:=P) (Q:=Q) (w0:=w0) hs hin' hmono hsteps htail ops.length (Array.replicate ops.length false) (fun _=>undef) { w0 with drawn:=w0.drawn+1 } (by simp)
  (fun i o h=>by rw [h0] at h;cases h) (fun j _=>h0 j) ⟨rfl,rfl,rfl,Nat.le_refl _,fun _ _=>rfl⟩ (fun i _ h=>by rw [h0] at h;cases h)
  (by unfold left;exact Nat.le_trans (List.length_filter_le _ _) (by simp))
 have e:bv ops (fun _=>undef) (fun j=>(Array.replicate ops.length false).getD j false) k a=a:=by
  have:∀ n,bv ops (fun _=>undef) (fun j=>(Array.replicate ops.length false).getD j false) n a=a:=by
   intro n
   induction n with
   | zero=>rfl
   | succ n ih=>unfold bv;rw [h0,ih];rfl
  exact this k
 rw [e] at this;simpa using this
end
end Q
namespace Q
open Go Go.RowKit
structure bU where
 eqv:Option Value
 p:Value->World->Prop
 mono:∀ v w w',Below w.heap.size w w'->p v w->p v w'
 is:∀ c,eqv=some c->∀ v w,p v w->v=c
def bU.of (p:Value->World->Prop) (mono:∀ v w w',Below w.heap.size w w'->p v w->p v w'):bU:=⟨none,p,mono,fun _ h=>by cases h⟩
def bU.eq (c:Value):bU:=⟨some c,fun v _=>v=c,fun _ _ _ _ h=>h,fun c' h v w hv=>by cases h;exact hv⟩
def bU.any:bU:=bU.of (fun _ _=>True) (fun _ _ _ _ h=>h)
def Uu (fs:List bU) (i:Nat) (v:Value) (w:World):Prop:=(fs.getD i .any).p v w
def ou (P:Program) (ops:Array Oper) (Q:Exit->Act->World->Prop) (rest:List Oper) (w':World):List bU->List Tmp->Act->Prop
 | f::fs,d::ds,a=>match f.eqv with
  | some c=>ou P ops Q rest w' fs ds (a.put (some d) c)
  | none=>∀ v,f.p v w'->ou P ops Q rest w' fs ds (a.put (some d) v)
 | _,_,a=>wpList P ops Q rest a w'
theorem Di {P:Program} {ops:List Oper} {OPS:Array Oper} {Q:Exit->Act->World->Prop} {rest:List Oper} {w':World} {vs:Nat->Value} {a:Act} :
  ∀ (fs:List bU) (ds:List Tmp) (i:Nat),fs.length=ds.length->(∀ j (f:bU),fs[j]?=some f->f.p (vs (i+j)) w')->(∀ j (d:Tmp),ds[j]?=some d->bF ops (i+j)=some d) ->
   ou P OPS Q rest w' fs ds (bv ops vs (fun _=>true) i a)->wpList P OPS Q rest (bv ops vs (fun _=>true) (i+ds.length) a) w'
 | [],[],i,_,_,_,h=>h
 | f::fs,d::ds,i,hl,hf,hd,h=>by
  have h0:=hf 0 f rfl
  have h1:ou P OPS Q rest w' fs ds ((bv ops vs (fun _=>true) i a).put (some d) (vs i)):=by
   unfold ou at h;split at h
   ·rename_i c hc;have:=f.is c hc _ _ h0;rw [Nat.add_zero] at this;rw [this];exact h
   ·exact h _ h0
  have e:bv ops vs (fun _=>true) (i+1) a=(bv ops vs (fun _=>true) i a).put (some d) (vs i):=by
   simp only [bv,if_true,show bF ops i=some d from hd 0 d rfl]
  have:=Di fs ds (i+1) (by simpa using hl) (fun j f' hj=>by rw [show i+1+j=i+(j+1) by omega];exact hf (j+1) f' (by simpa using hj))
   (fun j d' hj=>by rw [show i+1+j=i+(j+1) by omega];exact hd (j+1) d' (by simpa using hj)) (by rw [e];exact h1)
  rw [show i+(d::ds).length=i+1+ds.length by simp;omega];exact this
 | [],_::_,_,h,_,_,_=>by simp at h
 | _::_,[],_,h,_,_,_=>by simp at h
theorem tX {φ:Nat->Value->World->Prop} {vs:Nat->Value} {w:World}:∀ k i,rW φ vs w k->i<k->φ i (vs i) w
 | 0,_,_,h=>by omega
 | k+1,i,h,hi=>by
  rcases Nat.eq_or_lt_of_le (Nat.lt_succ_iff.1 hi) with e|e
  ·subst e;exact h.2
  ·exact tX k i h.1 e
theorem iw {P:Program} {ops:List Oper} {Q:Exit->Act->World->Prop} {a:Act} {w0:World} {id:Nat} (hm:P.follows .mixedOrders=true) (fs:List bU) (ds:List Tmp)
  (hs:jB ops fs.length=true) (hds:((ops.take fs.length).map (·.dst))=ds.map some) (hin:ds.all (fun d=>decide (d<a.tmps.size))=true)
  (hsteps:tT P ops (Uu fs) fs.length Q a w0 0 (ops.take fs.length))
  (htail:∀ w',Below w0.heap.size w0 w'->ou P ops.toArray Q (ops.drop fs.length) w' fs ds a) :
  (Code.region id ops.toArray true).wp P Q a w0:=by
 have nz:=zZ hs
 have hlen:ds.length=fs.length:=by
  have:=congrArg List.length hds;simp only [List.length_map,List.length_take] at this;omega
 have hdst:∀ i d,ds[i]?=some d->bF ops i=some d:=fun i d hd=>by
  have hil:i<ds.length:=(List.getElem?_eq_some_iff.1 hd).1;have:((ops.take fs.length).map (·.dst))[i]?=(ds.map some)[i]?:=by rw [hds]
  rw [List.getElem?_map,List.getElem?_map,hd,List.getElem?_take,if_pos (by omega)] at this;unfold bF
  cases ho:ops[i]? with
  | none=>rw [ho] at this;cases this
  | some o=>rw [ho] at this;simpa using this
 refine zn hm (Uu fs) fs.length hs ?_ ?_ hsteps ?_
 ·rw [List.all_eq_true];intro i hi;have hi':=List.mem_range.1 hi;have hil:i<ds.length:=by omega
  rw [hdst i ds[i] (List.getElem?_eq_getElem hil)];exact List.all_eq_true.1 hin _ (List.getElem_mem hil)
 ·intro i hi v w w' hb h;exact (fs.getD i .any).mono v w w' hb h
 ·intro vs w' hb hf
  have:=Di (vs:=vs) (a:=a) (w':=w') fs ds 0 hlen.symm (fun j f hj=>by
   have hjl:j<fs.length:=(List.getElem?_eq_some_iff.1 hj).1;have:=tX _ j hf hjl;unfold Uu at this;rw [List.getD_eq_getElem?_getD,hj] at this
   simpa using this) (fun j d hj=>by rw [Nat.zero_add];exact hdst j d hj) (htail w' hb)
  rw [Nat.zero_add,hlen] at this;exact this
end Q
namespace Q
open Go Go.RowKit
theorem jI {P:Program} {c:Code} {Q:Exit->Act->World->Prop} {a:Act} {w:World} {T1:TypeId} {c1:List Value}
  (h:∀ W,Below w.heap.size w W->Blk W w.heap.size T1 c1->w.heap.size+1<=W.heap.size->c.wp P Q a W):c.wp P Q a (w.alloc (.cells c1.toArray T1)) :=
 h _ ((Below.refl _ _).alloc (Nat.le_refl _) _) (Blk.new _ _ _) (by simp)
theorem xm {P:Program} {c:Code} {Q:Exit->Act->World->Prop} {a:Act} {w:World} {T1 T2:TypeId} {c1 c2:List Value}
  (h:∀ W,Below w.heap.size w W->Blk W w.heap.size T1 c1->Blk W (w.heap.size+1) T2 c2->w.heap.size+1+1<=W.heap.size->c.wp P Q a W) :
  c.wp P Q a ((w.alloc (.cells c1.toArray T1)).alloc (.cells c2.toArray T2)):=by
 refine h _ (((Below.refl _ _).alloc (Nat.le_refl _) _).alloc (by simp) _) ((Blk.new _ _ _).alloc _) ?_ (by simp);have:=Blk.new (w.alloc (.cells c1.toArray T1)) T2 c2;simpa using this
theorem rY {P:Program} {c:Code} {Q:Exit->Act->World->Prop} {a:Act} {w:World} {T1 T2 T3:TypeId} {c1 c2 c3:List Value}
  (h:∀ W,Below w.heap.size w W->Blk W w.heap.size T1 c1->Blk W (w.heap.size+1) T2 c2->Blk W (w.heap.size+1+1) T3 c3->w.heap.size+1+1+1<=W.heap.size->c.wp P Q a W) :
  c.wp P Q a (((w.alloc (.cells c1.toArray T1)).alloc (.cells c2.toArray T2)).alloc (.cells c3.toArray T3)):=by
 refine h _ ((((Below.refl _ _).alloc (Nat.le_refl _) _).alloc (by simp) _).alloc (by simp;omega) _) (((Blk.new _ _ _).alloc _).alloc _) ?_ ?_ (by simp)
 ·have:=(Blk.new (w.alloc (.cells c1.toArray T1)) T2 c2).alloc (.cells c3.toArray T3);simpa using this
 ·have:=Blk.new ((w.alloc (.cells c1.toArray T1)).alloc (.cells c2.toArray T2)) T3 c3;simpa using this
theorem Blk.at1 {w:World} {g:Nat} {T:TypeId} {cs:List Value} (h:Blk w g T cs) (j:Nat) (v:Value) (hv:cs[j]?=some v):w.cell? ⟨g,j,none⟩=some v:=by rw [h.cell];exact hv
def bU.u32 (p:List Int->Prop):bU:=bU.of (fun v w=>∃ l,dH w v l/\p l) (fun _ _ _ hb ⟨l,h,hp⟩=>⟨l,h.on hb,hp⟩)
def bU.int (z:Int):bU:=bU.of (fun v w=>∃ neg m,v=.agg #[.bool neg,m]/\aZ w neg m z) (fun _ _ _ hb ⟨n,m,e,h⟩=>⟨n,m,e,h.on hb⟩)
theorem Aa {P:Program} {o:Oper} {A:Act} {w w':World} {i:Nat} {φ:Nat->Value->World->Prop} {Q:Exit->Act->World->Prop} {c:Value} (h:φ i c w')
  (hrun:(execOp A.eval o).run P w=.ok (.value c) w') (hb:Below w.heap.size w w'):o.wp P A w (fun A' w'=>∃ v,A'=A.put o.dst v/\Below w.heap.size w w'/\φ i v w') Q:=by
 unfold Oper.wp;rw [hrun];exact⟨c,rfl,hb,h⟩
theorem aK {P:Program} {o:Oper} {A:Act} {w:World} {i:Nat} {φ:Nat->Value->World->Prop} {Q:Exit->Act->World->Prop} {c:Value} (h:φ i c w)
  (hrun:(execOp A.eval o).run P w=.ok (.value c) w):o.wp P A w (fun A' w'=>∃ v,A'=A.put o.dst v/\Below w.heap.size w w'/\φ i v w') Q:=Aa h hrun (Below.refl _ _)
theorem cO {P:Program} {o:Oper} {A:Act} {w:World} {i:Nat} {φ:Nat->Value->World->Prop} {Q:Exit->Act->World->Prop} {f:FuncId} {args:Array Value}
  (hrun:(execOp A.eval o).run P w=.ok (.enter f args) w) (h:Calls P f args w fun e w'=>∃ v,e=.returned v/\Below w.heap.size w w'/\φ i v w') :
  o.wp P A w (fun A' w'=>∃ v,A'=A.put o.dst v/\Below w.heap.size w w'/\φ i v w') Q:=by
 unfold Oper.wp;rw [hrun,Oper.upon_enter];refine h.mono ?_;rintro e w' ⟨v,rfl,hb,hv⟩;exact⟨v,rfl,hb,hv⟩
theorem Blk.range {w:World} {g:Nat} {T:TypeId} {cs:List Value} (h:Blk w g T cs) (o:Nat) (ds:List Value) (hd:∀ j v,ds[j]?=some v->cs[o+j]?=some v):w.rangeAt g o ds:=fun j v hv=>by
 rw [h.cell];exact hd j v hv
theorem Blk.there {w:World} {g:Nat} {T:TypeId} {cs:List Value} (h:Blk w g T cs) (o n:Nat) (hn:o+n<=cs.length):w.there g o n:=fun j hj =>
 ⟨by rw [h.cell,List.getElem?_eq_getElem (by omega)];rfl,h.frozen _⟩
theorem eU {g:Nat} {T:TypeId}:∀ (vs:List Value) (o:Nat) (w:World) (cs:List Value),Blk w g T cs->o+vs.length<=cs.length ->
  Blk (w.setCells g o vs) g T (cs.take o++vs++cs.drop (o+vs.length))/\w.grownBy (w.setCells g o vs) (some g)
 | [],o,w,cs,h,_=>by
  simp only [World.setCells,List.append_nil,List.length_nil,Nat.add_zero,List.take_append_drop];exact⟨h,World.grownBy.refl _ _⟩
 | v::vs,o,w,cs,h,hl=>by
  simp only [List.length_cons] at hl;obtain⟨h1,h2⟩:=eU vs (o+1) (w.setCell ⟨g,o,none⟩ v) (cs.set o v) (h.set o v) (by simp;omega);refine⟨?_,?_⟩
  ·have e:(cs.set o v).take (o+1)++vs++(cs.set o v).drop (o+1+vs.length)=cs.take o++(v::vs)++cs.drop (o+(v::vs).length):=by
    rw [List.drop_set_of_lt (by omega),List.take_succ_eq_append_getElem (by simp;omega),List.take_set_of_le (Nat.le_refl _)];simp [Nat.add_assoc,Nat.add_comm 1]
   rw [e] at h1;exact h1
  ·refine⟨h2.os,h2.tape,h2.output,by have:=h2.size;simp only [World.setCells];exact Nat.le_trans (by simp [World.setCell]) this,fun k hk hne=>?_⟩;have:=h2.block k (by simpa [World.setCell] using hk) hne;simp only [World.setCells];rw [this,Below.heap_setCell _ _ _ _ (fun e=>hne (by rw [e]))]
theorem Blk.grown {w w':World} {g h:Nat} {T:TypeId} {cs:List Value} (hB:Blk w g T cs) (hg:w.grownBy w' (some h)) (hne:g≠h):Blk w' g T cs:=by
 have:=hg.block g hB.lt (by simpa using hne);unfold Blk at *;rw [this];exact hB
theorem aM {w w':World} {g B:Nat} (hg:w.grownBy w' (some g)) (hB:B<=w.heap.size) (hBg:B<=g):Below B w w':=(Below.refl _ _).grown hg hB (fun k hk=>by cases hk;exact hBg)
theorem aA {P:Program} {w:World} {ops:Array Oper} {rest:List Oper} {o:Oper} {a:Act} {Q:Exit->Act->World->Prop} (hg:o.guard=none) (ty:TypeId) (x y:Operand) (hop:o.op=.store ty x y)
  (g:Nat) (T:TypeId) (cs:List Value) (vs:Array Value) (hx:a.eval x=.pointer (some ⟨g,0,none⟩)) (hy:a.eval y=.agg vs) (hB:Blk w g T cs) (hl:vs.size=cs.length)
  (hi:(P.info? ty).map (·.size)=some vs.size) (h1:vs.all (·.oneCell')=true)
  (hK:∀ w',Blk w' g T vs.toList->w.grownBy w' (some g)->wpList P ops Q rest (a.put o.dst undef) w'):wpList P ops Q (o::rest) a w:=by
 refine wpList_store_mid hg ty x y hop g 0 vs hx hy (hB.there 0 _ (by omega)) hi h1 ?_;obtain⟨h1,h2⟩:=eU vs.toList 0 w cs hB (by simp;omega);refine hK _ ?_ h2;simpa [hl] using h1
theorem dM {P:Program} {fn:Func} {R:Ending->World->Prop} {a:Act} {w:World} {p:Tmp} {ty T:TypeId} {g:Nat} {cs:List Value} {d:TypeDesc} (hres:fn.results=#[.cell p ty]) (hd:a.defers=[])
  (hp:a.tmps.getD p undef=.pointer (some ⟨g,0,none⟩)) (hB:Blk w g T cs) (hu:P.underlying ty=some d) (hr:(match d with|.struct _|.array _ _=>true|_=>false)=true) (hi:(P.info? ty).map (·.size)=some cs.length)
  (h:R (.returned (.agg cs.toArray)) w):bodyPost P fn R .ret a w :=
 bodyPost_ret (results_cell_row hres a.tmps w g T cs.toArray (0,0) d hp hB hu hr (by simpa using hi)) hd h
end Q
namespace Q
open Go Go.RowKit
theorem VX {P:Program} {c:Code} {Q:Exit->Act->World->Prop} {a:Act} {w:World} {T1 T2 T3 T4:TypeId} {c1 c2 c3 c4:List Value}
  (h:∀ W,Below w.heap.size w W->Blk W w.heap.size T1 c1->Blk W (w.heap.size+1) T2 c2->Blk W (w.heap.size+1+1) T3 c3->Blk W (w.heap.size+1+1+1) T4 c4->w.heap.size+1+1+1+1<=W.heap.size->c.wp P Q a W) :
  c.wp P Q a ((((w.alloc (.cells c1.toArray T1)).alloc (.cells c2.toArray T2)).alloc (.cells c3.toArray T3)).alloc (.cells c4.toArray T4)):=by
 refine h _ (((((Below.refl _ _).alloc (Nat.le_refl _) _).alloc (by simp) _).alloc (by simp;omega) _).alloc (by simp;omega) _) ((((Blk.new _ _ _).alloc _).alloc _).alloc _) ?_ ?_ ?_ (by simp)
 ·have:=((Blk.new (w.alloc (.cells c1.toArray T1)) T2 c2).alloc (.cells c3.toArray T3)).alloc (.cells c4.toArray T4);simpa using this
 ·have:=(Blk.new ((w.alloc (.cells c1.toArray T1)).alloc (.cells c2.toArray T2)) T3 c3).alloc (.cells c4.toArray T4);simpa using this
 ·have:=Blk.new (((w.alloc (.cells c1.toArray T1)).alloc (.cells c2.toArray T2)).alloc (.cells c3.toArray T3)) T4 c4;simpa using this
end Q
