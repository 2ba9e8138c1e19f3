/- A region that draws its order, by vJ on its operations' values: no program in sight. -/
import Derived.Test.YtopclbeomcggiaaGreatW03
import Derived.Deep.MidRow
set_option linter.unusedVariables false
set_option linter.unusedSimpArgs false
set_option maxHeartbeats 16000000
set_option maxRecDepth 100000
namespace Q
open Go Go.RowKit
def bg (ops:List Oper) (i:Nat):Option Tmp:=(ops[i]?).bind (·.dst)
def P8 (ops:List Oper) (k:Nat) (t:Tmp):Bool:=(List.range k).any λj=>bg ops j==some t
theorem P9{ops:List Oper}{k:Nat}{t:Tmp}(h:P8 ops k t=false)(j:Nat)(b:j<k):bg ops j≠some t:=by intro hc;have:P8 ops k t=true:=List.any_eq_true.2 ⟨j,List.mem_range.2 b,by rw[hc];exact beq_self_eq_true _⟩;rw[h]at this;cases this
def bf (ops:List Oper) (vs:Nat->Value) (p:Nat->Bool):Nat->Act->Act
 | 0,a=>a
 | k+1,a=>if p k then(bf ops vs p k a).put (bg ops k) (vs k)else bf ops vs p k a
def pE (ops:List Oper) (φ:Nat->Value->World->Prop) (A:Act) (w:World):List Edge->Prop
 | []=>True
 | e::es=>(Region.binds .any e=true->φ e.on (A.eval (.tmp ((bg ops e.on).getD 0))) w)/\pE ops φ A w es
def Qa (P:Program) (ops:List Oper) (φ:Nat->Value->World->Prop) (k:Nat) (Q:Exit->Act->World->Prop) (a:Act) (w0:World) (i:Nat) (o:Oper):Prop :=
 ∀A w,(∀t,P8 ops k t=false->A.eval (.tmp t)=a.eval (.tmp t))->Below w0.heap.size w0 w->pE ops φ A w o.after.toList ->
  o.wp P A w (λA' w'=>∃v,A'=A.put o.dst v/\Below w.heap.size w w'/\φ i v w') Q
def uP (P:Program) (ops:List Oper) (φ:Nat->Value->World->Prop) (k:Nat) (Q:Exit->Act->World->Prop) (a:Act) (w0:World):Nat->List Oper->Prop
 | _,[]=>True
 | i,o::r=>Qa P ops φ k Q a w0 i o/\uP P ops φ k Q a w0 (i+1) r
theorem uP.get{P:Program}{ops:List Oper}{φ:Nat->Value->World->Prop}{k:Nat}{Q:Exit->Act->World->Prop}{a:Act}{w0:World} :
  ∀{l:List Oper}{i j:Nat}{o:Oper},uP P ops φ k Q a w0 i l->l[j]?=some o->Qa P ops φ k Q a w0 (i+j) o
 | [],_,_,_,_,h=>by simp at h
 | x::r,i,0,o,h,ho=>by simp at ho;subst ho;exact h.1
 | x::r,i,j+1,o,h,ho=>by have:=h.2.get (j:=j) (by simpa using ho);rw[(oM:i+(j+1)=i+1+j)];exact this
def vJ (φ:Nat->Value->World->Prop) (vs:Nat->Value) (w:World):Nat->Prop
 | 0=>True
 | k+1=>vJ φ vs w k/\φ k (vs k) w
theorem tY{φ:Nat->Value->World->Prop}{vs:Nat->Value}{w:World}:∀k,(∀i,i<k->φ i (vs i) w)->vJ φ vs w k
 | 0,_=>trivial
 | k+1,h=>⟨tY k (λi b=>h i (by omega)),h k (by omega)⟩
def jO (ops:List Oper) (k:Nat):Bool :=
 decide (k<=ops.length) &&
 (List.range k).all (λi=>match ops[i]? with
  | some o=>o.guard.isNone&&o.dst.isSome&&o.after.toList.all (λe=>decide (e.on<i) || !Region.binds .any e)&&(List.range i).all (λj=>bg ops j != o.dst)
  | none=>false) &&
 (List.range (ops.length-k)).all (λd=>match ops[k+d]? with
  | some o=>o.after.toList.all (λe=>decide (e.on<k+d) || !Region.binds .any e)&&(List.range (k+d)).all (λj=>reaches ops (k+d) j (ops.length+1) (o.after.toList))
  | none=>false)
 where
 reaches (ops:List Oper) (_n j:Nat):Nat->List Edge->Bool
  | 0,_=>false
  | f+1,es=>es.any λe=>Region.binds .any e&&(e.on==j || (match ops[e.on]? with|some o=>reaches ops _n j f o.after.toList|none=>false))
end Q
namespace Q
open Go Go.RowKit
section
variable {P:Program} {ops:List Oper} {φ:Nat->Value->World->Prop} {k:Nat} {Q:Exit->Act->World->Prop} {a:Act} {w0:World}
theorem lU(h:jO ops k=true){i:Nat}(p:i<k) :
  ∃o,ops[i]?=some o/\o.guard=none/\(∃d,o.dst=some d)/\(∀e∈o.after,Region.binds .any e=true->e.on<i)/\∀j,j<i->bg ops j≠o.dst:=by
 simp only[jO,Bool.and_eq_true,List.all_eq_true,List.mem_range]at h;have:=h.1.2 i p;split at this
 ·rename_i o r;simp only[Bool.and_eq_true,List.all_eq_true,Option.isNone_iff_eq_none,List.mem_range,bne_iff_ne]at this;obtain⟨⟨⟨b,l⟩,m⟩,n⟩:=this;refine⟨o,r,b,Option.isSome_iff_exists.1 l,λe he hb=>?_,λj q=>n j q⟩;have:=m e (by simpa using he);simp[hb]at this;exact this
 ·cases this
theorem BI(h:jO ops k=true):k<=ops.length:=by simp only[jO,Bool.and_eq_true]at h;simpa using h.1.1
theorem pU{listed:Array Bool}(b:∀i o,listed.getD i false=true->ops[i]?=some o->∀e∈o.after,Region.binds .any e=true->listed.getD e.on false=true){n j:Nat} :
  ∀(f:Nat)(es:List Edge),(∀e∈es,Region.binds .any e=true->listed.getD e.on false=true)->jO.reaches ops n j f es=true->listed.getD j false=true
 | 0,_,_,h=>by simp[jO.reaches]at h
 | f+1,es,hes,h=>by
  simp only[jO.reaches,List.any_eq_true,Bool.and_eq_true,Bool.or_eq_true,beq_iff_eq]at h;obtain⟨e,he,hb,h⟩:=h;have l:=hes e he hb;rcases h with h|h
  ·rw[<-h];exact l
  ·split at h
   ·rename_i o p;exact pU b f _ (λm k d=>b e.on o l p m (by simpa using k) d) h
   ·cases h
theorem rM(h:jO ops k=true){i:Nat}(m:k<=i)(d:i<ops.length) :
  ∃o,ops[i]?=some o/\(∀e∈o.after,Region.binds .any e=true->e.on<i)/\∀j,j<i->jO.reaches ops i j (ops.length+1) o.after.toList=true:=by
 simp only[jO,Bool.and_eq_true,List.all_eq_true,List.mem_range]at h;have:=h.2 (i-k) oM;rw[(oM:k+(i-k)=i)]at this;split at this
 ·rename_i o l;simp only[Bool.and_eq_true,List.all_eq_true,List.mem_range]at this;refine⟨o,l,λe he hb=>?_,λj b=>this.2 j b⟩;have:=this.1 e (by simpa using he);simp[hb]at this;exact this
 ·cases this
theorem nN{vs:Nat->Value}{p:Nat->Bool}{t:Tmp} :
  ∀n,(∀j,j<n->p j=true->bg ops j≠some t)->(bf ops vs p n a).eval (.tmp t)=a.eval (.tmp t)
 | 0,_=>rfl
 | n+1,h=>by
  unfold bf;split
  ·rename_i hp;rw[Act.eval_put (λd hd he=>h n (by omega) hp (by rw[hd];simpa using he.symm))];exact nN n (λj b=>h j (by omega))
  ·exact nN n (λj b=>h j (by omega))
theorem gp{vs vs':Nat->Value}{p p':Nat->Bool}:∀n,(∀j,j<n->p j=p' j)->(∀j,j<n->p j=true->vs j=vs' j)->bf ops vs p n a=bf ops vs' p' n a
 | 0,_,_=>rfl
 | n+1,h,hv=>by
  unfold bf;rw[<-h n (by omega),gp n (λj b=>h j (by omega)) (λj b=>hv j (by omega))];split
  ·rename_i hp;rw[hv n (by omega) hp]
  ·rfl
theorem rO{vs:Nat->Value}{p:Nat->Bool}{i:Nat}{v:Value}(hp:p i=false)(hd:∀j,j<k->j≠i->bg ops i≠none->bg ops j≠bg ops i)(r:∃d,bg ops i=some d) :
  ∀n,i<n->n<=k->bf ops (λj=>if j=i then v else vs j) (λj=>p j || j==i) n a=(bf ops vs p n a).put (bg ops i) v
 | 0,h,_=>by omega
 | n+1,h,hk=>by
  obtain⟨d,b⟩:=r;by_cases m:i=n
  ·subst m
   have e:bf ops (λj=>if j=i then v else vs j) (λj=>p j || j==i) i a=bf ops vs p i a :=
    gp i (λj q=>by simp;omega) (λj q _=>by simp;omega)
   simp only[bf,e,hp,beq_self_eq_true,Bool.or_true,if_true,Bool.false_eq_true,if_false]
  ·have s:=rO (vs:=vs) (v:=v) hp hd ⟨d,b⟩ n oM oM;have e1:(n==i)=false:=by simp;omega
   simp only[bf,s,e1,Bool.or_false,if_neg (oM:¬n=i)];split
   ·rw[Act.put_comm _ _ _ (λd' o l=>hd n oM oM (by rw[b];simp) (by rw[o,l]))]
   ·rfl
theorem Qb(A:Act)(d:Option Tmp)(v:Value):(A.put d v).tmps.size=A.tmps.size:=by cases d<;>simp[Act.put]
theorem tZ{vs:Nat->Value}{p:Nat->Bool}:∀n,(bf ops vs p n a).tmps.size=a.tmps.size
 | 0=>rfl
 | n+1=>by
  unfold bf;split
  ·rw[Qb,tZ n]
  ·exact tZ n
theorem rP{vs:Nat->Value}{p:Nat->Bool}{i:Nat}{d:Tmp}(hd:bg ops i=some d)(b:∀j,j<k->j≠i->bg ops j≠some d)(hp:p i=true)(e:d<a.tmps.size) :
  ∀n,i<n->n<=k->(bf ops vs p n a).eval (.tmp d)=vs i
 | 0,h,_=>by omega
 | n+1,h,hk=>by
  by_cases l:i=n
  ·subst l;simp only[bf,hp,if_true,hd];simp[Act.eval,Act.put,Array.getD_eq_getD_getElem?,tZ,e]
  ·have m:=rP (vs:=vs) (p:=p) hd b hp e n oM oM;unfold bf;split
   ·rw[Act.eval_put (λd' o he=>b n oM oM (by rw[o];simpa using he.symm))];exact m
   ·exact m
def left (n:Nat) (listed:Array Bool):Nat:=((List.range n).filter λi=>!listed.getD i true).length
theorem BJ{n:Nat}{listed:Array Bool}{i:Nat}(m:listed.size=n)(l:listed.getD i true=false):left n (listed.setIfInBounds i true)<left n listed:=by
 have d:i<n:=by
  rcases Nat.lt_or_ge i n with h|h
  ·exact h
  ·rw[Array.getD_eq_getD_getElem?,Array.getElem?_eq_none oM]at l;cases l
 unfold left
 have k:((List.range n).filter λj=>!(listed.setIfInBounds i true).getD j true)=(((List.range n).filter λj=>!listed.getD j true).filter λj=>j != i):=by
  rw[List.filter_filter];apply List.filter_congr;intro j _;by_cases b:i=j
  ·subst b;simp[Array.getD_eq_getD_getElem?,m,d]
  ·rw[getD_set_ne _ b];simp[Ne.symm b]
 rw[k]
 have e:i∈((List.range n).filter λj=>!listed.getD j true):=by rw[List.mem_filter];exact⟨List.mem_range.2 d,by rw[l];rfl⟩
 exact List.length_filter_lt_length_iff_exists.2 ⟨i,e,sM⟩
theorem uQ{n:Nat}{listed:Array Bool}(h:left n listed=0){i:Nat}(b:i<n):listed.getD i true=true:=by unfold left at h;have:=List.eq_nil_of_length_eq_zero h;rw[List.filter_eq_nil_iff]at this;have:=this i (List.mem_range.2 b);simpa using this
theorem eZ{listed:Array Bool}{i:Nat}(b:i<listed.size):listed.getD i true=listed.getD i false:=by simp[Array.getD_eq_getD_getElem?,Array.getElem?_eq_getElem b]
end
end Q
namespace Q
open Go Go.RowKit
section
variable {P:Program} {ops:List Oper} {φ:Nat->Value->World->Prop} {k:Nat} {Q:Exit->Act->World->Prop} {a:Act} {w0:World}
theorem fP(i:Nat):ops.toArray[i]?=ops[i]?:=sM
theorem H7(M:jO ops k=true):∀(fuel i:Nat)(listed:Array Bool)(A:Act)(w:World),k<=i->i<=ops.length->listed.size=ops.length ->
  (∀j,j<i->listed.getD j false=true)->(∀j,i<=j->listed.getD j false=false)->ops.length-i<=fuel->wpList P ops.toArray Q (ops.drop i) A w ->
  wpAny P .any ops.toArray Q fuel listed A w:=by
 intro fuel
 induction fuel with
 | zero =>
  intro i listed A w G hi B l d hf h;have:i=ops.length:=oM;subst this;rw[List.drop_of_length_le (nL _)]at h;refine⟨?_,h⟩;rw[List.eq_nil_iff_forall_not_mem];intro j F;obtain⟨u,o,z,_⟩:=mem_ready.1 F
  have s:j<ops.length:=by rw[fP]at z;exact(gS.1 z).1
  rw[eZ oM,l j s]at u;cases u
 | succ fuel ih =>
  intro i listed A w G hi B l d hf h;by_cases D:i=ops.length
  ·subst D;rw[List.drop_of_length_le (nL _)]at h;refine⟨λ_=>h,λj F=>?_⟩;obtain⟨u,o,z,_⟩:=mem_ready.1 F
   have s:j<ops.length:=by rw[fP]at z;exact(gS.1 z).1
   rw[eZ oM,l j s]at u;cases u
  ·have s:i<ops.length:=oM;obtain⟨o,z,hedge,L⟩:=rM M G s
   have p:i∈Region.ready .any ops.toArray listed:=by refine mem_ready.2 ⟨by rw[eZ oM];exact d i (nL _),o,by rw[fP];exact z,λe he hb=>l _ (hedge e he hb)⟩
   refine⟨λhn=>(by rw[hn]at p;cases p),λj F=>?_⟩;obtain⟨u,oj,q,C⟩:=mem_ready.1 F;rw[fP]at q;have n:j<ops.length:=(gS.1 q).1;rw[eZ oM]at u
   have O:i<=j:=by
    rcases Nat.lt_or_ge j i with h'|h'
    ·rw[l j h']at u;cases u
    ·exact h'
   have R:j=i:=by
    rcases Nat.eq_or_lt_of_le O with h'|h'
    ·exact h'.symm
    ·exfalso;obtain⟨a0,x,K,hreach'⟩:=rM M (oM:k<=j) n
     have N:∀y X,listed.getD y false=true->ops[y]?=some X->∀e∈X.after,Region.binds .any e=true->listed.getD e.on false=true:=by
      intro y X H J e he hb
      have Z:y < i:=by
       rcases Nat.lt_or_ge y i with h''|h''
       ·exact h''
       ·rw[d y h'']at H;cases H
      apply l;by_cases S:y < k
      ·obtain⟨Y,b,_,_,r,_⟩:=lU M S;rw[J]at b;cases b;have:=r e he hb;omega
      ·obtain⟨Y,b,r,_⟩:=rM M (oM:k<=y) oM;rw[J]at b;cases b;have:=r e he hb;omega
     rw[q]at x;cases x;have:=pU N _ _ (λe he hb=>C e (by simpa using he) hb) (hreach' i h');rw[d i (nL _)]at this;cases this
   subst R
   have hd:ops.drop j=oj::ops.drop (j+1):=by
    rw[List.drop_eq_getElem_cons n]
    congr 1
    rw[gE n]at q;exact Option.some.inj q
   rw[hd]at h
   have E:∀A w,wpList P ops.toArray Q (ops.drop (j+1)) A w->wpAny P .any ops.toArray Q fuel (listed.setIfInBounds j true) A w:=by
    intro A w h;refine ih (j+1) _ A w oM oM (by simpa using B) ?_ ?_ oM h
    ·intro m hm;by_cases I:m=j
     ·subst I;simp[Array.getD_eq_getD_getElem?,B,n]
     ·rw[getD_set_ne _ (Ne.symm I)];exact l m oM
    ·intro m hm;rw[getD_set_ne _ oM];exact d m oM
   unfold wpOp;rw[fP,q];simp only;unfold wpList at h;split
   ·rename_i W;rw[if_pos W]at h;exact h.imp (Oper.wp_mono E) id
   ·rename_i W;rw[if_neg W]at h;exact E _ _ h
theorem Ot(C:jO ops k=true)(a9:∀i,i<k->∀d,bg ops i=some d->d<a.tmps.size)(Y:∀i,i<k->∀v w w',Below w.heap.size w w'->φ i v w->φ i v w')(H:uP P ops φ k Q a w0 0 (ops.take k))
  (D:∀vs w',Below w0.heap.size w0 w'->vJ φ vs w' k->wpList P ops.toArray Q (ops.drop k) (bf ops vs (λ_=>true) k a) w') :
  ∀(fuel:Nat)(listed:Array Bool)(vs:Nat->Value)(w:World),listed.size=ops.length ->
   (∀i o,listed.getD i false=true->ops[i]?=some o->∀e∈o.after,Region.binds .any e=true->listed.getD e.on false=true) ->
   (∀j,k<=j->listed.getD j false=false)->Below w0.heap.size w0 w->(∀i,i<k->listed.getD i false=true->φ i (vs i) w)->left ops.length listed<=fuel ->
   wpAny P .any ops.toArray Q fuel listed (bf ops vs (λj=>listed.getD j false) k a) w:=by
 intro fuel
 induction fuel with
 | zero =>
  intro listed vs w y L r hb E hf;have hk:=BI C
  have ao:k=ops.length:=by
   rcases Nat.eq_or_lt_of_le hk with h|h
   ·exact h
   ·have:=uQ (by omega:left ops.length listed=0) (i:=k) h;rw[eZ oM,r k (nL _)]at this;cases this
  have hall:∀j,j<k->listed.getD j false=true:=λj l=>by have:=uQ (by omega:left ops.length listed=0) (i:=j) oM;rwa[eZ oM]at this
  refine H7 C 0 k listed _ w (nL _) hk y hall r oM ?_;have:=D vs w hb (tY k (λi O=>E i O (hall i O)));rwa[gp (vs':=vs) (p':=λj=>listed.getD j false) k (λj l=>(hall j l).symm) (λj _ _=>rfl)]at this
 | succ fuel ih =>
  intro listed vs w y L r hb E hf;have hk:=BI C;by_cases hall:∀j,j<k->listed.getD j false=true
  ·have X:ops.length-k<=fuel+1:=by
    have:ops.length-k<=left ops.length listed:=by
     unfold left
     have a6:((List.range' k (ops.length-k))).Sublist ((List.range ops.length).filter λi=>!listed.getD i true):=by
      have h1:(List.range' k (ops.length-k)).filter (λi=>!listed.getD i true)=List.range' k (ops.length-k):=by rw[List.filter_eq_self];intro j l;simp only[List.mem_range'_1]at l;rw[eZ oM,r j oM];rfl
      rw[<-h1];apply List.Sublist.filter;rw[List.range_eq_range']
      have h2:List.range' 0 ops.length=List.range' 0 k++List.range' k (ops.length-k):=by have:=List.range'_append (s:=0) (m:=k) (n:=ops.length-k) (step:=1);simp only[Nat.one_mul,Nat.zero_add]at this;rw[this];congr 1;omega
      rw[h2];exact List.sublist_append_right _ _
     simpa using a6.length_le
    omega
   refine H7 C _ k listed _ w (nL _) hk y hall r X ?_;have:=D vs w hb (tY k (λi O=>E i O (hall i O)));rwa[gp (vs':=vs) (p':=λj=>listed.getD j false) k (λj l=>(hall j l).symm) (λj _ _=>rfl)]at this
  ·have hex:∃j,j<k/\listed.getD j false=false:=by
    apply Classical.byContradiction;intro Z;apply hall;intro j l;cases hq:listed.getD j false
    ·exact absurd ⟨j,l,hq⟩ Z
    ·rfl
   -- the least that has not come up is ready
   have G:∃j,j∈Region.ready .any ops.toArray listed:=by
    have ag:∀n,∀j,j<=n->j<k->listed.getD j false=false->∃j,j∈Region.ready .any ops.toArray listed:=by
     intro n
     induction n with
     | zero =>
      intro j l S W;obtain⟨o,z,_,_,B,_⟩:=lU C S;refine⟨j,mem_ready.2 ⟨by rw[eZ oM];exact W,o,by rw[fP];exact z,λe he b=>?_⟩⟩;have:=B e he b;omega
     | succ n an =>
      intro j l S W;obtain⟨o,z,_,_,B,_⟩:=lU C S;by_cases hp:∀e∈o.after,Region.binds .any e=true->listed.getD e.on false=true
      ·exact⟨j,mem_ready.2 ⟨by rw[eZ oM];exact W,o,by rw[fP];exact z,hp⟩⟩
      ·have:∃e,e∈o.after/\Region.binds .any e=true/\listed.getD e.on false=false:=by
        apply Classical.byContradiction;intro Z;apply hp;intro e he b;cases hq:listed.getD e.on false
        ·exact absurd ⟨e,he,b,hq⟩ Z
        ·rfl
       obtain⟨e,he,b,hq⟩:=this;have:=B e he b;exact an e.on oM oM hq
    obtain⟨j,l,hl⟩:=hex;exact ag j j (nL _) l hl
   refine⟨λhn=>(by obtain⟨j,l⟩:=G;rw[hn]at l;cases l),λi O=>?_⟩;obtain⟨h0,o,z,hpre⟩:=mem_ready.1 O;rw[fP]at z;have I:i<ops.length:=(gS.1 z).1;rw[eZ oM]at h0
   have R:i<k:=by
    rcases Nat.lt_or_ge i k with h|h
    ·exact h
    ·exfalso;obtain⟨o',x,_,hreach⟩:=rM C h I;rw[z]at x;cases x;apply hall;intro j l;exact pU L _ _ (λe he b=>hpre e (by simpa using he) b) (hreach j oM)
   obtain⟨o',x,hg,⟨d,hd⟩,B,N⟩:=lU C R;rw[z]at x;cases x;have a5:=H.get (j:=i) (o:=o) (by rw[List.getElem?_take,if_pos R];exact z);rw[Nat.zero_add]at a5;have M:bg ops i=o.dst:=by simp[bg,z]
   have a7:∀j,j<k->j≠i->bg ops i≠none->bg ops j≠bg ops i:=by
    intro j l q _;rcases Nat.lt_or_ge j i with h|h
    ·rw[M];exact N j h
    ·obtain⟨o2,a0,_,_,_,u⟩:=lU C l;have:=u i oM;have e2:bg ops j=o2.dst:=by simp[bg,a0]
     rw[e2];exact λh=>this h.symm
   have a4:=a5 (bf ops vs (λj=>listed.getD j false) k a) w (λt ht=>nN k (λj l _=>P9 ht j l)) hb (by
    have:∀es:List Edge,(∀e∈es,Region.binds .any e=true->e.on<i/\listed.getD e.on false=true)->pE ops φ (bf ops vs (λj=>listed.getD j false) k a) w es:=by
     intro es
     induction es with
     | nil=>intro _;trivial
     | cons e es al =>
      intro h;refine⟨λb=>?_,al (λe' a8=>h e' (by simp[a8]))⟩;obtain⟨ap,hl⟩:=h e sM b;obtain⟨oe,ac,_,⟨de,a2⟩,_,F⟩:=lU C (oM:e.on<k);have e1:bg ops e.on=some de:=by simp[bg,ac,a2]
      rw[e1];simp only[Option.getD_some];rw[rP e1 (λj l q=>?_) hl (a9 e.on oM de e1) k oM (nL _)]
      ·exact E e.on oM hl
      ·intro hc;rcases Nat.lt_or_ge j e.on with hje|hje
       ·exact F j hje (by rw[hc,a2])
       ·obtain⟨o2,a0,_,_,_,u⟩:=lU C l;exact u e.on oM (by rw[e1,<-hc];simp[bg,a0])
    exact this _ (λe he b=>⟨B e (by simpa using he) b,hpre e (by simpa using he) b⟩))
   unfold wpOp;rw[fP,z];simp only;rw[if_pos (by simp[Region.wanted,hg])];left;refine Oper.wp_mono ?_ a4;rintro A' w' ⟨v,rfl,a1,K⟩;have ab:listed.getD i false=false:=h0;have a3:=rO (a:=a) (vs:=vs) (v:=v) (p:=λj=>listed.getD j false) ab a7 ⟨d,by rw[M,hd]⟩ k R (nL _);rw[<-M,<-a3]
   have ad:bf ops (λj=>if j=i then v else vs j) (λj=>listed.getD j false || j==i) k a=bf ops (λj=>if j=i then v else vs j) (λj=>(listed.setIfInBounds i true).getD j false) k a:=by
    refine gp k (λj l=>?_) (λj _ _=>rfl);by_cases q:j=i
    ·subst q;simp[Array.getD_eq_getD_getElem?,y,I]
    ·rw[getD_set_ne _ (Ne.symm q)];have:(j==i)=false:=by simpa using q
     rw[this,Bool.or_false]
   rw[ad]
   have J:∀j,(listed.setIfInBounds i true).getD j false=true->j=i\/listed.getD j false=true:=λj l=>by
    by_cases q:j=i
    ·exact .inl q
    ·rw[getD_set_ne _ (Ne.symm q)]at l;exact .inr l
   refine ih _ _ _ (by simpa using y) ?_ ?_ (hb.trans (a1.mono hb.size)) ?_ ?_
   ·intro i' o' aa x e he b;rcases J i' aa with h|h
    ·subst h;rw[z]at x;cases x;exact getD_set_true (hpre e he b)
    ·exact getD_set_true (L i' o' h x e he b)
   ·intro j l;rw[getD_set_ne _ oM];exact r j l
   ·intro j l hl;rcases J j hl with h|h
    ·subst h;simpa using K
    ·by_cases q:j=i
     ·subst q;simpa using K
     ·simp only[if_neg q];exact Y j l _ _ _ a1 (E j l h)
   ·have:=BJ y (i:=i) (by rw[eZ oM];exact h0);omega
theorem Ap{id:Nat}(hm:P.follows .mixedOrders=true)(φ:Nat->Value->World->Prop)(k:Nat)(s:jO ops k=true)
  (q:((List.range k).all λi=>match bg ops i with|some d=>decide (d<a.tmps.size)|none=>true)=true)
  (l:∀i,i<k->∀v w w',Below w.heap.size w w'->φ i v w->φ i v w') (b:uP P ops φ k Q a w0 0 (ops.take k))
  (m:∀vs w',Below w0.heap.size w0 w'->vJ φ vs w' k->wpList P ops.toArray Q (ops.drop k) (bf ops vs (λ_=>true) k a) w') :
  (Code.region id ops.toArray true).wp P Q a w0:=by
 refine wp_region_any hm ?_
 have p:∀i,i<k->∀d,bg ops i=some d->d<a.tmps.size:=λi r d hd=>by have:=List.all_eq_true.1 q i (List.mem_range.2 r);rw[hd]at this;simpa using this
 have h0:∀j,(Array.replicate ops.length false).getD j false=false:=λj=>by simp[Array.getD_eq_getD_getElem?,Array.getElem?_replicate];split<;>rfl
 have:=Ot (P:=P) (Q:=Q) (w0:=w0) s p l b m ops.length (Array.replicate ops.length false) (λ_=>undef) { w0 with drawn:=w0.drawn+1 } sM
  (λi o h=>by rw[h0]at h;cases h) (λj _=>h0 j) ⟨rfl,rfl,rfl,nL _,λ_ _=>rfl⟩ (λi _ h=>by rw[h0]at h;cases h)
  (by unfold left;exact Nat.le_trans (List.length_filter_le _ _) sM)
 have e:bf ops (λ_=>undef) (λj=>(Array.replicate ops.length false).getD j false) k a=a:=by
  have:∀n,bf ops (λ_=>undef) (λj=>(Array.replicate ops.length false).getD j false) n a=a:=by
   intro n
   induction n with
   | zero=>rfl
   | succ n u=>unfold bf;rw[h0,u];rfl
  exact this k
 rw[e]at this;simpa using this
end
end Q
namespace Q
open Go Go.RowKit
structure bX where
 eqv:Option Value
 p:Value->World->Prop
 mono:∀v w w',Below w.heap.size w w'->p v w->p v w'
 is:∀c,eqv=some c->∀v w,p v w->v=c
def bX.of (p:Value->World->Prop) (mono:∀v w w',Below w.heap.size w w'->p v w->p v w'):bX:=⟨none,p,mono,λ_ h=>by cases h⟩
def bX.eq (c:Value):bX:=⟨some c,λv _=>v=c,λ_ _ _ _ h=>h,λc' h v w hv=>by cases h;exact hv⟩
def bX.any:bX:=bX.of (λ_ _=>True) (λ_ _ _ _ h=>h)
def Vb (fs:List bX) (i:Nat) (v:Value) (w:World):Prop:=(fs.getD i .any).p v w
def pV (P:Program) (ops:Array Oper) (Q:Exit->Act->World->Prop) (rest:List Oper) (w':World):List bX->List Tmp->Act->Prop
 | f::fs,d::ds,a=>match f.eqv with
  | some c=>pV P ops Q rest w' fs ds (a.put (some d) c)
  | none=>∀v,f.p v w'->pV P ops Q rest w' fs ds (a.put (some d) v)
 | _,_,a=>wpList P ops Q rest a w'
theorem EC{P:Program}{ops:List Oper}{k:Array Oper}{Q:Exit->Act->World->Prop}{rest:List Oper}{w':World}{vs:Nat->Value}{a:Act} :
  ∀(l:List bX)(b:List Tmp)(i:Nat),l.length=b.length->(∀j (f:bX),l[j]?=some f->f.p (vs (i+j)) w')->(∀j (d:Tmp),b[j]?=some d->bg ops (i+j)=some d) ->
   pV P k Q rest w' l b (bf ops vs (λ_=>true) i a)->wpList P k Q rest (bf ops vs (λ_=>true) (i+b.length) a) w'
 | [],[],i,_,_,_,h=>h
 | f::l,d::b,i,hl,hf,hd,h=>by
  have n:=hf 0 f rfl
  have q:pV P k Q rest w' l b ((bf ops vs (λ_=>true) i a).put (some d) (vs i)):=by
   unfold pV at h;split at h
   ·rename_i c hc;have:=f.is c hc _ _ n;rw[Nat.add_zero]at this;rw[this];exact h
   ·exact h _ n
  have e:bf ops vs (λ_=>true) (i+1) a=(bf ops vs (λ_=>true) i a).put (some d) (vs i):=by simp only[bf,if_true,show bg ops i=some d from hd 0 d rfl]
  have:=EC l b (i+1) (by simpa using hl) (λj o m=>by rw[(oM:i+1+j=i+(j+1))];exact hf (j+1) o (by simpa using m))
   (λj d' m=>by rw[(oM:i+1+j=i+(j+1))];exact hd (j+1) d' (by simpa using m)) (by rw[e];exact q)
  rw[show i+(d::b).length=i+1+b.length by simp;omega];exact this
 | [],_::_,_,h,_,_,_=>by simp at h
 | _::_,[],_,h,_,_,_=>by simp at h
theorem uR{φ:Nat->Value->World->Prop}{vs:Nat->Value}{w:World}:∀k i,vJ φ vs w k->i<k->φ i (vs i) w
 | 0,_,_,h=>by omega
 | k+1,i,h,hi=>by
  rcases Nat.eq_or_lt_of_le (Nat.lt_succ_iff.1 hi)with e|e
  ·subst e;exact h.2
  ·exact uR k i h.1 e
theorem iL{P:Program}{ops:List Oper}{Q:Exit->Act->World->Prop}{a:Act}{w0:World}{id:Nat}(hm:P.follows .mixedOrders=true)(b:List bX)(e:List Tmp)
  (x:jO ops b.length=true) (p:((ops.take b.length).map (·.dst))=e.map some) (r:e.all (λd=>decide (d<a.tmps.size))=true)
  (k:uP P ops (Vb b) b.length Q a w0 0 (ops.take b.length))
  (htail:∀w',Below w0.heap.size w0 w'->pV P ops.toArray Q (ops.drop b.length) w' b e a) :
  (Code.region id ops.toArray true).wp P Q a w0:=by
 have kQ:=BI x
 have m:e.length=b.length:=by have:=congrArg List.length p;simp only[List.length_map,List.length_take]at this;omega
 have l:∀i d,e[i]?=some d->bg ops i=some d:=λi d hd=>by
  have n:i<e.length:=(gS.1 hd).1;have:((ops.take b.length).map (·.dst))[i]?=(e.map some)[i]?:=by rw[p]
  rw[List.getElem?_map,List.getElem?_map,hd,List.getElem?_take,if_pos oM]at this;unfold bg
  cases ho:ops[i]? with
  | none=>rw[ho]at this;cases this
  | some o=>rw[ho]at this;simpa using this
 refine Ap hm (Vb b) b.length x ?_ ?_ k ?_
 ·rw[List.all_eq_true];intro i u;have y:=List.mem_range.1 u;have n:i<e.length:=oM;rw[l i e[i] (gE n)];exact List.all_eq_true.1 r _ (List.getElem_mem n)
 ·intro i u v w w' hb h;exact(b.getD i .any).mono v w w' hb h
 ·intro vs w' hb hf
  have:=EC (vs:=vs) (a:=a) (w':=w') b e 0 m.symm (λj f q=>by
   have s:j<b.length:=(gS.1 q).1;have:=uR _ j hf s;unfold Vb at this;rw[jD,q]at this
   simpa using this) (λj d q=>by rw[Nat.zero_add];exact l j d q) (htail w' hb)
  rw[Nat.zero_add,m]at this;exact this
end Q
namespace Q
open Go Go.RowKit
theorem jb{P:Program}{c:Code}{Q:Exit->Act->World->Prop}{a:Act}{w:World}{b:TypeId}{c1:List Value}
  (h:∀W,Below w.heap.size w W->Blk W w.heap.size b c1->w.heap.size+1<=W.heap.size->c.wp P Q a W):c.wp P Q a (w.alloc (.cells c1.toArray b)) :=
 h _ ((Below.refl _ _).alloc (nL _) _) (Blk.new _ _ _) sM
theorem xc{P:Program}{c:Code}{Q:Exit->Act->World->Prop}{a:Act}{w:World}{b d:TypeId}{c1 c2:List Value}
  (h:∀W,Below w.heap.size w W->Blk W w.heap.size b c1->Blk W (w.heap.size+1) d c2->w.heap.size+1+1<=W.heap.size->c.wp P Q a W) :
  c.wp P Q a ((w.alloc (.cells c1.toArray b)).alloc (.cells c2.toArray d)):=by
 refine h _ (((Below.refl _ _).alloc (nL _) _).alloc sM _) ((Blk.new _ _ _).alloc _) ?_ sM;have:=Blk.new (w.alloc (.cells c1.toArray b)) d c2;simpa using this
theorem rQ{P:Program}{c:Code}{Q:Exit->Act->World->Prop}{a:Act}{w:World}{b d e:TypeId}{c1 c2 i:List Value}
  (h:∀W,Below w.heap.size w W->Blk W w.heap.size b c1->Blk W (w.heap.size+1) d c2->Blk W (w.heap.size+1+1) e i->w.heap.size+1+1+1<=W.heap.size->c.wp P Q a W) :
  c.wp P Q a (((w.alloc (.cells c1.toArray b)).alloc (.cells c2.toArray d)).alloc (.cells i.toArray e)):=by
 refine h _ ((((Below.refl _ _).alloc (nL _) _).alloc sM _).alloc (by simp;omega) _) (((Blk.new _ _ _).alloc _).alloc _) ?_ ?_ sM
 ·have:=(Blk.new (w.alloc (.cells c1.toArray b)) d c2).alloc (.cells i.toArray e);simpa using this
 ·have:=Blk.new ((w.alloc (.cells c1.toArray b)).alloc (.cells c2.toArray d)) e i;simpa using this
theorem Blk.at1{w:World}{g:Nat}{T:TypeId}{cs:List Value}(h:Blk w g T cs)(j:Nat)(v:Value)(hv:cs[j]?=some v):w.cell? ⟨g,j,none⟩=some v:=by rw[h.cell];exact hv
def bX.u32 (p:List Int->Prop):bX:=bX.of (λv w=>∃l,cO w v l/\p l) (λ_ _ _ hb ⟨l,h,hp⟩=>⟨l,h.on hb,hp⟩)
def bX.int (z:Int):bX:=bX.of (λv w=>∃neg m,v=.agg #[.bool neg,m]/\aZ w neg m z) (λ_ _ _ hb ⟨n,m,e,h⟩=>⟨n,m,e,h.on hb⟩)
theorem BK{P:Program}{o:Oper}{A:Act}{w w':World}{i:Nat}{φ:Nat->Value->World->Prop}{Q:Exit->Act->World->Prop}{c:Value}(h:φ i c w')
  (b:(execOp A.eval o).run P w=.ok (.value c) w') (hb:Below w.heap.size w w'):o.wp P A w (λA' w'=>∃v,A'=A.put o.dst v/\Below w.heap.size w w'/\φ i v w') Q:=by
 unfold Oper.wp;rw[b];exact⟨c,rfl,hb,h⟩
theorem aL{P:Program}{o:Oper}{A:Act}{w:World}{i:Nat}{φ:Nat->Value->World->Prop}{Q:Exit->Act->World->Prop}{c:Value}(h:φ i c w)
  (b:(execOp A.eval o).run P w=.ok (.value c) w):o.wp P A w (λA' w'=>∃v,A'=A.put o.dst v/\Below w.heap.size w w'/\φ i v w') Q:=BK h b (Below.refl _ _)
theorem dh{P:Program}{o:Oper}{A:Act}{w:World}{i:Nat}{φ:Nat->Value->World->Prop}{Q:Exit->Act->World->Prop}{f:FuncId}{args:Array Value}
  (b:(execOp A.eval o).run P w=.ok (.enter f args) w) (h:Calls P f args w λe w'=>∃v,e=.returned v/\Below w.heap.size w w'/\φ i v w') :
  o.wp P A w (λA' w'=>∃v,A'=A.put o.dst v/\Below w.heap.size w w'/\φ i v w') Q:=by
 unfold Oper.wp;rw[b,Oper.upon_enter];refine h.mono ?_;rintro e w' ⟨v,rfl,hb,hv⟩;exact⟨v,rfl,hb,hv⟩
theorem Blk.range{w:World}{g:Nat}{T:TypeId}{cs:List Value}(h:Blk w g T cs)(o:Nat)(b:List Value)(hd:∀j v,b[j]?=some v->cs[o+j]?=some v):w.rangeAt g o b:=λj v hv=>by rw[h.cell];exact hd j v hv
theorem Blk.there{w:World}{g:Nat}{T:TypeId}{cs:List Value}(h:Blk w g T cs)(o n:Nat)(d:o+n<=cs.length):w.there g o n:=λj b =>
 ⟨by rw[h.cell,gE oM];rfl,h.frozen _⟩
theorem dW{g:Nat}{T:TypeId}:∀(vs:List Value)(o:Nat)(w:World)(cs:List Value),Blk w g T cs->o+vs.length<=cs.length ->
  Blk (w.setCells g o vs) g T (cs.take o++vs++cs.drop (o+vs.length))/\w.grownBy (w.setCells g o vs) (some g)
 | [],o,w,cs,h,_=>by simp only[World.setCells,List.append_nil,List.length_nil,Nat.add_zero,List.take_append_drop];exact⟨h,World.grownBy.refl _ _⟩
 | v::vs,o,w,cs,h,hl=>by
  simp only[List.length_cons]at hl;obtain⟨i,b⟩:=dW vs (o+1) (w.setCell ⟨g,o,none⟩ v) (cs.set o v) (h.set o v) (by simp;omega);refine⟨?_,?_⟩
  ·have e:(cs.set o v).take (o+1)++vs++(cs.set o v).drop (o+1+vs.length)=cs.take o++(v::vs)++cs.drop (o+(v::vs).length):=by
    rw[List.drop_set_of_lt oM,List.take_succ_eq_append_getElem (by simp;omega),List.take_set_of_le (nL _)];simp[Nat.add_assoc,Nat.add_comm 1]
   rw[e]at i;exact i
  ·refine⟨b.os,b.tape,b.output,by have:=b.size;simp only[World.setCells];exact Nat.le_trans (by simp[World.setCell]) this,λk j d=>?_⟩;have:=b.block k (by simpa[World.setCell]using j) d;simp only[World.setCells];rw[this,Below.heap_setCell _ _ _ _ (λe=>d (by rw[e]))]
theorem Blk.grown{w w':World}{g h:Nat}{T:TypeId}{cs:List Value}(d:Blk w g T cs)(hg:w.grownBy w' (some h))(b:g≠h):Blk w' g T cs:=by have:=hg.block g d.lt (by simpa using b);unfold Blk at *;rw[this];exact d
theorem aH{w w':World}{g B:Nat}(hg:w.grownBy w' (some g))(d:B<=w.heap.size)(b:B<=g):Below B w w':=(Below.refl _ _).grown hg d (λk e=>by cases e;exact b)
theorem az{P:Program}{w:World}{ops:Array Oper}{rest:List Oper}{o:Oper}{a:Act}{Q:Exit->Act->World->Prop}(hg:o.guard=none)(ty:TypeId)(x y:Operand)(d:o.op=.store ty x y)
  (g:Nat) (T:TypeId) (cs:List Value) (vs:Array Value) (l:a.eval x=.pointer (some ⟨g,0,none⟩)) (m:a.eval y=.agg vs) (e:Blk w g T cs) (k:vs.size=cs.length)
  (j:(P.info? ty).map (·.size)=some vs.size) (b:vs.all (·.oneCell')=true)
  (i:∀w',Blk w' g T vs.toList->w.grownBy w' (some g)->wpList P ops Q rest (a.put o.dst undef) w'):wpList P ops Q (o::rest) a w:=by
 refine wpList_store_mid hg ty x y d g 0 vs l m (e.there 0 _ oM) j b ?_;obtain⟨b,h⟩:=dW vs.toList 0 w cs e (by simp;omega);refine i _ ?_ h;simpa[k]using b
theorem dH{P:Program}{fn:Func}{R:Ending->World->Prop}{a:Act}{w:World}{p:Tmp}{ty T:TypeId}{g:Nat}{cs:List Value}{d:TypeDesc}(b:fn.results=#[.cell p ty])(hd:a.defers=[])
  (hp:a.tmps.getD p undef=.pointer (some ⟨g,0,none⟩)) (e:Blk w g T cs) (hu:P.underlying ty=some d) (j:(match d with|.struct _|.array _ _=>true|_=>false)=true) (i:(P.info? ty).map (·.size)=some cs.length)
  (h:R (.returned (.agg cs.toArray)) w):bodyPost P fn R .ret a w :=
 bodyPost_ret (results_cell_row b a.tmps w g T cs.toArray (0,0) d hp e hu j (by simpa using i)) hd h
end Q
namespace Q
open Go Go.RowKit
theorem WH{P:Program}{c:Code}{Q:Exit->Act->World->Prop}{a:Act}{w:World}{b d e i:TypeId}{c1 c2 j k:List Value}
  (h:∀W,Below w.heap.size w W->Blk W w.heap.size b c1->Blk W (w.heap.size+1) d c2->Blk W (w.heap.size+1+1) e j->Blk W (w.heap.size+1+1+1) i k->w.heap.size+1+1+1+1<=W.heap.size->c.wp P Q a W) :
  c.wp P Q a ((((w.alloc (.cells c1.toArray b)).alloc (.cells c2.toArray d)).alloc (.cells j.toArray e)).alloc (.cells k.toArray i)):=by
 refine h _ (((((Below.refl _ _).alloc (nL _) _).alloc sM _).alloc (by simp;omega) _).alloc (by simp;omega) _) ((((Blk.new _ _ _).alloc _).alloc _).alloc _) ?_ ?_ ?_ sM
 ·have:=((Blk.new (w.alloc (.cells c1.toArray b)) d c2).alloc (.cells j.toArray e)).alloc (.cells k.toArray i);simpa using this
 ·have:=(Blk.new ((w.alloc (.cells c1.toArray b)).alloc (.cells c2.toArray d)) e j).alloc (.cells k.toArray i);simpa using this
 ·have:=Blk.new (((w.alloc (.cells c1.toArray b)).alloc (.cells c2.toArray d)).alloc (.cells j.toArray e)) i k;simpa using this
end Q
