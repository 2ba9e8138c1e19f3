/- A region that draws its order, by wU on its operations' values: no program in sight. -/
import Derived.Test.YtopclbeomcggiaaGreatZ03
import Derived.Deep.MidRow
set_option linter.unusedVariables false
set_option linter.unusedSimpArgs false
set_option maxHeartbeats 16000000
set_option maxRecDepth 100000
namespace Q
open Go Go.RowKit
def bG (ops:List Oper) (i:Nat):Option Tmp:=(ops[i]?).bind (·.dst)
def Sl (ops:List Oper) (k:Nat) (t:Tmp):Bool:=(List.range k).any λj=>bG ops j==some t
theorem Sm{ops:List Oper}{k:Nat}{t:Tmp}(h:Sl ops k t=false)(j:Nat)(b:j<k):bG ops j≠some t:=by intro hc;have:Sl ops k t=true:=List.any_eq_true.2 ⟨j,List.mem_range.2 b,by rw[hc];exact beq_self_eq_true _⟩;rw[h]at this;cases this
def bD (ops:List Oper) (vs:Nat->Value) (p:Nat->Bool):Nat->Act->Act
 | 0,a=>a
 | k+1,a=>if p k then(bD ops vs p k a).put (bG ops k) (vs k)else bD ops vs p k a
def qm (ops:List Oper) (φ:Nat->Value->World->Prop) (A:Act) (w:World):List Edge->Prop
 | []=>True
 | e::es=>(Region.binds .any e=true->φ e.on (A.eval (.tmp ((bG ops e.on).getD 0))) w)/\qm ops φ A w es
def Sn (P:Program) (ops:List Oper) (φ:Nat->Value->World->Prop) (k:Nat) (Q:Exit->Act->World->Prop) (a:Act) (w0:World) (i:Nat) (o:Oper):Prop :=
 ∀A w,(∀t,Sl ops k t=false->A.eval (.tmp t)=a.eval (.tmp t))->Below w0.heap.size w0 w->qm ops φ A w o.after.toList ->
  o.wp P A w (λA' w'=>∃v,A'=A.put o.dst v/\Below w.heap.size w w'/\φ i v w') Q
def vT (P:Program) (ops:List Oper) (φ:Nat->Value->World->Prop) (k:Nat) (Q:Exit->Act->World->Prop) (a:Act) (w0:World):Nat->List Oper->Prop
 | _,[]=>True
 | i,o::r=>Sn P ops φ k Q a w0 i o/\vT P ops φ k Q a w0 (i+1) r
theorem vT.get{P:Program}{ops:List Oper}{φ:Nat->Value->World->Prop}{k:Nat}{Q:Exit->Act->World->Prop}{a:Act}{w0:World} :
  ∀{l:List Oper}{i j:Nat}{o:Oper},vT P ops φ k Q a w0 i l->l[j]?=some o->Sn P ops φ k Q a w0 (i+j) o
 | [],_,_,_,_,h=>by simp at h
 | x::r,i,0,o,h,ho=>by simp at ho;subst ho;exact h.1
 | x::r,i,j+1,o,h,ho=>by have:=h.2.get (j:=j) (by simpa using ho);rw[(oM:i+(j+1)=i+1+j)];exact this
def wU (φ:Nat->Value->World->Prop) (vs:Nat->Value) (w:World):Nat->Prop
 | 0=>True
 | k+1=>wU φ vs w k/\φ k (vs k) w
theorem uL{φ:Nat->Value->World->Prop}{vs:Nat->Value}{w:World}:∀k,(∀i,i<k->φ i (vs i) w)->wU φ vs w k
 | 0,_=>trivial
 | k+1,h=>⟨uL k (λi b=>h i (by omega)),h k (by omega)⟩
def jY (ops:List Oper) (k:Nat):Bool :=
 decide (k<=ops.length) &&
 (List.range k).all (λi=>match ops[i]? with
  | some o=>o.guard.isNone&&o.dst.isSome&&o.after.toList.all (λe=>decide (e.on<i) || !Region.binds .any e)&&(List.range i).all (λj=>bG ops j != o.dst)
  | none=>false) &&
 (List.range (ops.length-k)).all (λd=>match ops[k+d]? with
  | some o=>o.after.toList.all (λe=>decide (e.on<k+d) || !Region.binds .any e)&&(List.range (k+d)).all (λj=>reaches ops (k+d) j (ops.length+1) (o.after.toList))
  | none=>false)
 where
 reaches (ops:List Oper) (_n j:Nat):Nat->List Edge->Bool
  | 0,_=>false
  | f+1,es=>es.any λe=>Region.binds .any e&&(e.on==j || (match ops[e.on]? with|some o=>reaches ops _n j f o.after.toList|none=>false))
end Q
namespace Q
open Go Go.RowKit
section
variable {P:Program} {ops:List Oper} {φ:Nat->Value->World->Prop} {k:Nat} {Q:Exit->Act->World->Prop} {a:Act} {w0:World}
theorem mE(h:jY ops k=true){i:Nat}(p:i<k) :
  ∃o,ops[i]?=some o/\o.guard=none/\(∃d,o.dst=some d)/\(∀e∈o.after,Region.binds .any e=true->e.on<i)/\∀j,j<i->bG ops j≠o.dst:=by
 simp only[jY,Bool.and_eq_true,List.all_eq_true,List.mem_range]at h;have:=h.1.2 i p;split at this
 ·rename_i o r;simp only[Bool.and_eq_true,List.all_eq_true,Option.isNone_iff_eq_none,List.mem_range,bne_iff_ne]at this;obtain⟨⟨⟨b,l⟩,m⟩,n⟩:=this;refine⟨o,r,b,Option.isSome_iff_exists.1 l,λe he hb=>?_,λj q=>n j q⟩;have:=m e (by simpa using he);simp[hb]at this;exact this
 ·cases this
theorem CV(h:jY ops k=true):k<=ops.length:=by simp only[jY,Bool.and_eq_true]at h;simpa using h.1.1
theorem qy{listed:Array Bool}(b:∀i o,listed.getD i false=true->ops[i]?=some o->∀e∈o.after,Region.binds .any e=true->listed.getD e.on false=true){n j:Nat} :
  ∀(f:Nat)(es:List Edge),(∀e∈es,Region.binds .any e=true->listed.getD e.on false=true)->jY.reaches ops n j f es=true->listed.getD j false=true
 | 0,_,_,h=>by simp[jY.reaches]at h
 | f+1,es,hes,h=>by
  simp only[jY.reaches,List.any_eq_true,Bool.and_eq_true,Bool.or_eq_true,beq_iff_eq]at h;obtain⟨e,he,hb,h⟩:=h;have l:=hes e he hb;rcases h with h|h
  ·rw[<-h];exact l
  ·split at h
   ·rename_i o p;exact qy b f _ (λm k d=>b e.on o l p m (by simpa using k) d) h
   ·cases h
theorem tH(h:jY ops k=true){i:Nat}(m:k<=i)(d:i<ops.length) :
  ∃o,ops[i]?=some o/\(∀e∈o.after,Region.binds .any e=true->e.on<i)/\∀j,j<i->jY.reaches ops i j (ops.length+1) o.after.toList=true:=by
 simp only[jY,Bool.and_eq_true,List.all_eq_true,List.mem_range]at h;have:=h.2 (i-k) oM;rw[(oM:k+(i-k)=i)]at this;split at this
 ·rename_i o l;simp only[Bool.and_eq_true,List.all_eq_true,List.mem_range]at this;refine⟨o,l,λe he hb=>?_,λj b=>this.2 j b⟩;have:=this.1 e (by simpa using he);simp[hb]at this;exact this
 ·cases this
theorem oF{vs:Nat->Value}{p:Nat->Bool}{t:Tmp} :
  ∀n,(∀j,j<n->p j=true->bG ops j≠some t)->(bD ops vs p n a).eval (.tmp t)=a.eval (.tmp t)
 | 0,_=>rfl
 | n+1,h=>by
  unfold bD;split
  ·rename_i hp;rw[Act.eval_put (λd hd he=>h n (by omega) hp (by rw[hd];simpa using he.symm))];exact oF n (λj b=>h j (by omega))
  ·exact oF n (λj b=>h j (by omega))
theorem gM{vs vs':Nat->Value}{p p':Nat->Bool}:∀n,(∀j,j<n->p j=p' j)->(∀j,j<n->p j=true->vs j=vs' j)->bD ops vs p n a=bD ops vs' p' n a
 | 0,_,_=>rfl
 | n+1,h,hv=>by
  unfold bD;rw[<-h n (by omega),gM n (λj b=>h j (by omega)) (λj b=>hv j (by omega))];split
  ·rename_i hp;rw[hv n (by omega) hp]
  ·rfl
theorem tJ{vs:Nat->Value}{p:Nat->Bool}{i:Nat}{v:Value}(hp:p i=false)(hd:∀j,j<k->j≠i->bG ops i≠none->bG ops j≠bG ops i)(r:∃d,bG ops i=some d) :
  ∀n,i<n->n<=k->bD ops (λj=>if j=i then v else vs j) (λj=>p j || j==i) n a=(bD ops vs p n a).put (bG ops i) v
 | 0,h,_=>by omega
 | n+1,h,hk=>by
  obtain⟨d,b⟩:=r;by_cases m:i=n
  ·subst m
   have e:bD ops (λj=>if j=i then v else vs j) (λj=>p j || j==i) i a=bD ops vs p i a :=
    gM i (λj q=>by simp;omega) (λj q _=>by simp;omega)
   simp only[bD,e,hp,beq_self_eq_true,Bool.or_true,if_true,Bool.false_eq_true,if_false]
  ·have s:=tJ (vs:=vs) (v:=v) hp hd ⟨d,b⟩ n oM oM;have e1:(n==i)=false:=by simp;omega
   simp only[bD,s,e1,Bool.or_false,if_neg (oM:¬n=i)];split
   ·rw[Act.put_comm _ _ _ (λd' o l=>hd n oM oM (by rw[b];simp) (by rw[o,l]))]
   ·rfl
theorem Sr(A:Act)(d:Option Tmp)(v:Value):(A.put d v).tmps.size=A.tmps.size:=by cases d<;>simp[Act.put]
theorem uM{vs:Nat->Value}{p:Nat->Bool}:∀n,(bD ops vs p n a).tmps.size=a.tmps.size
 | 0=>rfl
 | n+1=>by
  unfold bD;split
  ·rw[Sr,uM n]
  ·exact uM n
theorem tK{vs:Nat->Value}{p:Nat->Bool}{i:Nat}{d:Tmp}(hd:bG ops i=some d)(b:∀j,j<k->j≠i->bG ops j≠some d)(hp:p i=true)(e:d<a.tmps.size) :
  ∀n,i<n->n<=k->(bD ops vs p n a).eval (.tmp d)=vs i
 | 0,h,_=>by omega
 | n+1,h,hk=>by
  by_cases l:i=n
  ·subst l;simp only[bD,hp,if_true,hd];simp[Act.eval,Act.put,Array.getD_eq_getD_getElem?,uM,e]
  ·have m:=tK (vs:=vs) (p:=p) hd b hp e n oM oM;unfold bD;split
   ·rw[Act.eval_put (λd' o he=>b n oM oM (by rw[o];simpa using he.symm))];exact m
   ·exact m
def left (n:Nat) (listed:Array Bool):Nat:=((List.range n).filter λi=>!listed.getD i true).length
theorem CW{n:Nat}{listed:Array Bool}{i:Nat}(m:listed.size=n)(l:listed.getD i true=false):left n (listed.setIfInBounds i true)<left n listed:=by
 have d:i<n:=by
  rcases Nat.lt_or_ge i n with h|h
  ·exact h
  ·rw[Array.getD_eq_getD_getElem?,Array.getElem?_eq_none oM]at l;cases l
 unfold left
 have k:((List.range n).filter λj=>!(listed.setIfInBounds i true).getD j true)=(((List.range n).filter λj=>!listed.getD j true).filter λj=>j != i):=by
  rw[List.filter_filter];apply List.filter_congr;intro j _;by_cases b:i=j
  ·subst b;simp[Array.getD_eq_getD_getElem?,m,d]
  ·rw[getD_set_ne _ b];simp[Ne.symm b]
 rw[k]
 have e:i∈((List.range n).filter λj=>!listed.getD j true):=by rw[List.mem_filter];exact⟨List.mem_range.2 d,by rw[l];rfl⟩
 exact List.length_filter_lt_length_iff_exists.2 ⟨i,e,sM⟩
theorem vU{n:Nat}{listed:Array Bool}(h:left n listed=0){i:Nat}(b:i<n):listed.getD i true=true:=by unfold left at h;have:=List.eq_nil_of_length_eq_zero h;rw[List.filter_eq_nil_iff]at this;have:=this i (List.mem_range.2 b);simpa using this
theorem fF{listed:Array Bool}{i:Nat}(b:i<listed.size):listed.getD i true=listed.getD i false:=by simp[Array.getD_eq_getD_getElem?,Array.getElem?_eq_getElem b]
end
end Q
namespace Q
open Go Go.RowKit
section
variable {P:Program} {ops:List Oper} {φ:Nat->Value->World->Prop} {k:Nat} {Q:Exit->Act->World->Prop} {a:Act} {w0:World}
theorem gp(i:Nat):ops.toArray[i]?=ops[i]?:=sM
theorem JC(M:jY ops k=true):∀(fuel i:Nat)(listed:Array Bool)(A:Act)(w:World),k<=i->i<=ops.length->listed.size=ops.length ->
  (∀j,j<i->listed.getD j false=true)->(∀j,i<=j->listed.getD j false=false)->ops.length-i<=fuel->wpList P ops.toArray Q (ops.drop i) A w ->
  wpAny P .any ops.toArray Q fuel listed A w:=by
 intro fuel
 induction fuel with
 | zero =>
  intro i listed A w G hi B l d hf h;have:i=ops.length:=oM;subst this;rw[List.drop_of_length_le (nL _)]at h;refine⟨?_,h⟩;rw[List.eq_nil_iff_forall_not_mem];intro j F;obtain⟨u,o,z,_⟩:=mem_ready.1 F
  have s:j<ops.length:=by rw[gp]at z;exact(gS.1 z).1
  rw[fF oM,l j s]at u;cases u
 | succ fuel ih =>
  intro i listed A w G hi B l d hf h;by_cases D:i=ops.length
  ·subst D;rw[List.drop_of_length_le (nL _)]at h;refine⟨λ_=>h,λj F=>?_⟩;obtain⟨u,o,z,_⟩:=mem_ready.1 F
   have s:j<ops.length:=by rw[gp]at z;exact(gS.1 z).1
   rw[fF oM,l j s]at u;cases u
  ·have s:i<ops.length:=oM;obtain⟨o,z,hedge,L⟩:=tH M G s
   have p:i∈Region.ready .any ops.toArray listed:=by refine mem_ready.2 ⟨by rw[fF oM];exact d i (nL _),o,by rw[gp];exact z,λe he hb=>l _ (hedge e he hb)⟩
   refine⟨λhn=>(by rw[hn]at p;cases p),λj F=>?_⟩;obtain⟨u,oj,q,C⟩:=mem_ready.1 F;rw[gp]at q;have n:j<ops.length:=(gS.1 q).1;rw[fF oM]at u
   have O:i<=j:=by
    rcases Nat.lt_or_ge j i with h'|h'
    ·rw[l j h']at u;cases u
    ·exact h'
   have R:j=i:=by
    rcases Nat.eq_or_lt_of_le O with h'|h'
    ·exact h'.symm
    ·exfalso;obtain⟨a0,x,K,hreach'⟩:=tH M (oM:k<=j) n
     have N:∀y X,listed.getD y false=true->ops[y]?=some X->∀e∈X.after,Region.binds .any e=true->listed.getD e.on false=true:=by
      intro y X H J e he hb
      have Z:y < i:=by
       rcases Nat.lt_or_ge y i with h''|h''
       ·exact h''
       ·rw[d y h'']at H;cases H
      apply l;by_cases S:y < k
      ·obtain⟨Y,b,_,_,r,_⟩:=mE M S;rw[J]at b;cases b;have:=r e he hb;omega
      ·obtain⟨Y,b,r,_⟩:=tH M (oM:k<=y) oM;rw[J]at b;cases b;have:=r e he hb;omega
     rw[q]at x;cases x;have:=qy N _ _ (λe he hb=>C e (by simpa using he) hb) (hreach' i h');rw[d i (nL _)]at this;cases this
   subst R
   have hd:ops.drop j=oj::ops.drop (j+1):=by
    rw[List.drop_eq_getElem_cons n]
    congr 1
    rw[gE n]at q;exact Option.some.inj q
   rw[hd]at h
   have E:∀A w,wpList P ops.toArray Q (ops.drop (j+1)) A w->wpAny P .any ops.toArray Q fuel (listed.setIfInBounds j true) A w:=by
    intro A w h;refine ih (j+1) _ A w oM oM (by simpa using B) ?_ ?_ oM h
    ·intro m hm;by_cases I:m=j
     ·subst I;simp[Array.getD_eq_getD_getElem?,B,n]
     ·rw[getD_set_ne _ (Ne.symm I)];exact l m oM
    ·intro m hm;rw[getD_set_ne _ oM];exact d m oM
   unfold wpOp;rw[gp,q];simp only;unfold wpList at h;split
   ·rename_i W;rw[if_pos W]at h;exact h.imp (Oper.wp_mono E) id
   ·rename_i W;rw[if_neg W]at h;exact E _ _ h
theorem Qm(C:jY ops k=true)(a9:∀i,i<k->∀d,bG ops i=some d->d<a.tmps.size)(Y:∀i,i<k->∀v w w',Below w.heap.size w w'->φ i v w->φ i v w')(H:vT P ops φ k Q a w0 0 (ops.take k))
  (D:∀vs w',Below w0.heap.size w0 w'->wU φ vs w' k->wpList P ops.toArray Q (ops.drop k) (bD ops vs (λ_=>true) k a) w') :
  ∀(fuel:Nat)(listed:Array Bool)(vs:Nat->Value)(w:World),listed.size=ops.length ->
   (∀i o,listed.getD i false=true->ops[i]?=some o->∀e∈o.after,Region.binds .any e=true->listed.getD e.on false=true) ->
   (∀j,k<=j->listed.getD j false=false)->Below w0.heap.size w0 w->(∀i,i<k->listed.getD i false=true->φ i (vs i) w)->left ops.length listed<=fuel ->
   wpAny P .any ops.toArray Q fuel listed (bD ops vs (λj=>listed.getD j false) k a) w:=by
 intro fuel
 induction fuel with
 | zero =>
  intro listed vs w y L r hb E hf;have hk:=CV C
  have ao:k=ops.length:=by
   rcases Nat.eq_or_lt_of_le hk with h|h
   ·exact h
   ·have:=vU (by omega:left ops.length listed=0) (i:=k) h;rw[fF oM,r k (nL _)]at this;cases this
  have hall:∀j,j<k->listed.getD j false=true:=λj l=>by have:=vU (by omega:left ops.length listed=0) (i:=j) oM;rwa[fF oM]at this
  refine JC C 0 k listed _ w (nL _) hk y hall r oM ?_;have:=D vs w hb (uL k (λi O=>E i O (hall i O)));rwa[gM (vs':=vs) (p':=λj=>listed.getD j false) k (λj l=>(hall j l).symm) (λj _ _=>rfl)]at this
 | succ fuel ih =>
  intro listed vs w y L r hb E hf;have hk:=CV C;by_cases hall:∀j,j<k->listed.getD j false=true
  ·have X:ops.length-k<=fuel+1:=by
    have:ops.length-k<=left ops.length listed:=by
     unfold left
     have a6:((List.range' k (ops.length-k))).Sublist ((List.range ops.length).filter λi=>!listed.getD i true):=by
      have h1:(List.range' k (ops.length-k)).filter (λi=>!listed.getD i true)=List.range' k (ops.length-k):=by rw[List.filter_eq_self];intro j l;simp only[List.mem_range'_1]at l;rw[fF oM,r j oM];rfl
      rw[<-h1];apply List.Sublist.filter;rw[List.range_eq_range']
      have h2:List.range' 0 ops.length=List.range' 0 k++List.range' k (ops.length-k):=by have:=List.range'_append (s:=0) (m:=k) (n:=ops.length-k) (step:=1);simp only[Nat.one_mul,Nat.zero_add]at this;rw[this];congr 1;omega
      rw[h2];exact List.sublist_append_right _ _
     simpa using a6.length_le
    omega
   refine JC C _ k listed _ w (nL _) hk y hall r X ?_;have:=D vs w hb (uL k (λi O=>E i O (hall i O)));rwa[gM (vs':=vs) (p':=λj=>listed.getD j false) k (λj l=>(hall j l).symm) (λj _ _=>rfl)]at this
  ·have hex:∃j,j<k/\listed.getD j false=false:=by
    apply Classical.byContradiction;intro Z;apply hall;intro j l;cases hq:listed.getD j false
    ·exact absurd ⟨j,l,hq⟩ Z
    ·rfl
   -- the least that has not come up is ready
   have G:∃j,j∈Region.ready .any ops.toArray listed:=by
    have ag:∀n,∀j,j<=n->j<k->listed.getD j false=false->∃j,j∈Region.ready .any ops.toArray listed:=by
     intro n
     induction n with
     | zero =>
      intro j l S W;obtain⟨o,z,_,_,B,_⟩:=mE C S;refine⟨j,mem_ready.2 ⟨by rw[fF oM];exact W,o,by rw[gp];exact z,λe he b=>?_⟩⟩;have:=B e he b;omega
     | succ n an =>
      intro j l S W;obtain⟨o,z,_,_,B,_⟩:=mE C S;by_cases hp:∀e∈o.after,Region.binds .any e=true->listed.getD e.on false=true
      ·exact⟨j,mem_ready.2 ⟨by rw[fF oM];exact W,o,by rw[gp];exact z,hp⟩⟩
      ·have:∃e,e∈o.after/\Region.binds .any e=true/\listed.getD e.on false=false:=by
        apply Classical.byContradiction;intro Z;apply hp;intro e he b;cases hq:listed.getD e.on false
        ·exact absurd ⟨e,he,b,hq⟩ Z
        ·rfl
       obtain⟨e,he,b,hq⟩:=this;have:=B e he b;exact an e.on oM oM hq
    obtain⟨j,l,hl⟩:=hex;exact ag j j (nL _) l hl
   refine⟨λhn=>(by obtain⟨j,l⟩:=G;rw[hn]at l;cases l),λi O=>?_⟩;obtain⟨h0,o,z,hpre⟩:=mem_ready.1 O;rw[gp]at z;have I:i<ops.length:=(gS.1 z).1;rw[fF oM]at h0
   have R:i<k:=by
    rcases Nat.lt_or_ge i k with h|h
    ·exact h
    ·exfalso;obtain⟨o',x,_,hreach⟩:=tH C h I;rw[z]at x;cases x;apply hall;intro j l;exact qy L _ _ (λe he b=>hpre e (by simpa using he) b) (hreach j oM)
   obtain⟨o',x,hg,⟨d,hd⟩,B,N⟩:=mE C R;rw[z]at x;cases x;have a5:=H.get (j:=i) (o:=o) (by rw[List.getElem?_take,if_pos R];exact z);rw[Nat.zero_add]at a5;have M:bG ops i=o.dst:=by simp[bG,z]
   have a7:∀j,j<k->j≠i->bG ops i≠none->bG ops j≠bG ops i:=by
    intro j l q _;rcases Nat.lt_or_ge j i with h|h
    ·rw[M];exact N j h
    ·obtain⟨o2,a0,_,_,_,u⟩:=mE C l;have:=u i oM;have e2:bG ops j=o2.dst:=by simp[bG,a0]
     rw[e2];exact λh=>this h.symm
   have a4:=a5 (bD ops vs (λj=>listed.getD j false) k a) w (λt ht=>oF k (λj l _=>Sm ht j l)) hb (by
    have:∀es:List Edge,(∀e∈es,Region.binds .any e=true->e.on<i/\listed.getD e.on false=true)->qm ops φ (bD ops vs (λj=>listed.getD j false) k a) w es:=by
     intro es
     induction es with
     | nil=>intro _;trivial
     | cons e es al =>
      intro h;refine⟨λb=>?_,al (λe' a8=>h e' (by simp[a8]))⟩;obtain⟨ap,hl⟩:=h e sM b;obtain⟨oe,ac,_,⟨de,a2⟩,_,F⟩:=mE C (oM:e.on<k);have e1:bG ops e.on=some de:=by simp[bG,ac,a2]
      rw[e1];simp only[Option.getD_some];rw[tK e1 (λj l q=>?_) hl (a9 e.on oM de e1) k oM (nL _)]
      ·exact E e.on oM hl
      ·intro hc;rcases Nat.lt_or_ge j e.on with hje|hje
       ·exact F j hje (by rw[hc,a2])
       ·obtain⟨o2,a0,_,_,_,u⟩:=mE C l;exact u e.on oM (by rw[e1,<-hc];simp[bG,a0])
    exact this _ (λe he b=>⟨B e (by simpa using he) b,hpre e (by simpa using he) b⟩))
   unfold wpOp;rw[gp,z];simp only;rw[if_pos (by simp[Region.wanted,hg])];left;refine Oper.wp_mono ?_ a4;rintro A' w' ⟨v,rfl,a1,K⟩;have ab:listed.getD i false=false:=h0;have a3:=tJ (a:=a) (vs:=vs) (v:=v) (p:=λj=>listed.getD j false) ab a7 ⟨d,by rw[M,hd]⟩ k R (nL _);rw[<-M,<-a3]
   have ad:bD ops (λj=>if j=i then v else vs j) (λj=>listed.getD j false || j==i) k a=bD ops (λj=>if j=i then v else vs j) (λj=>(listed.setIfInBounds i true).getD j false) k a:=by
    refine gM k (λj l=>?_) (λj _ _=>rfl);by_cases q:j=i
    ·subst q;simp[Array.getD_eq_getD_getElem?,y,I]
    ·rw[getD_set_ne _ (Ne.symm q)];have:(j==i)=false:=by simpa using q
     rw[this,Bool.or_false]
   rw[ad]
   have J:∀j,(listed.setIfInBounds i true).getD j false=true->j=i\/listed.getD j false=true:=λj l=>by
    by_cases q:j=i
    ·exact .inl q
    ·rw[getD_set_ne _ (Ne.symm q)]at l;exact .inr l
   refine ih _ _ _ (by simpa using y) ?_ ?_ (hb.trans (a1.mono hb.size)) ?_ ?_
   ·intro i' o' aa x e he b;rcases J i' aa with h|h
    ·subst h;rw[z]at x;cases x;exact getD_set_true (hpre e he b)
    ·exact getD_set_true (L i' o' h x e he b)
   ·intro j l;rw[getD_set_ne _ oM];exact r j l
   ·intro j l hl;rcases J j hl with h|h
    ·subst h;simpa using K
    ·by_cases q:j=i
     ·subst q;simpa using K
     ·simp only[if_neg q];exact Y j l _ _ _ a1 (E j l h)
   ·have:=CW y (i:=i) (by rw[fF oM];exact h0);omega
theorem BK{id:Nat}(hm:P.follows .mixedOrders=true)(φ:Nat->Value->World->Prop)(k:Nat)(s:jY ops k=true)
  (q:((List.range k).all λi=>match bG ops i with|some d=>decide (d<a.tmps.size)|none=>true)=true)
  (l:∀i,i<k->∀v w w',Below w.heap.size w w'->φ i v w->φ i v w') (b:vT P ops φ k Q a w0 0 (ops.take k))
  (m:∀vs w',Below w0.heap.size w0 w'->wU φ vs w' k->wpList P ops.toArray Q (ops.drop k) (bD ops vs (λ_=>true) k a) w') :
  (Code.region id ops.toArray true).wp P Q a w0:=by
 refine wp_region_any hm ?_
 have p:∀i,i<k->∀d,bG ops i=some d->d<a.tmps.size:=λi r d hd=>by have:=List.all_eq_true.1 q i (List.mem_range.2 r);rw[hd]at this;simpa using this
 have h0:∀j,(Array.replicate ops.length false).getD j false=false:=λj=>by simp[Array.getD_eq_getD_getElem?,Array.getElem?_replicate];split<;>rfl
 have:=Qm (P:=P) (Q:=Q) (w0:=w0) s p l b m ops.length (Array.replicate ops.length false) (λ_=>undef) { w0 with drawn:=w0.drawn+1 } sM
  (λi o h=>by rw[h0]at h;cases h) (λj _=>h0 j) ⟨rfl,rfl,rfl,nL _,λ_ _=>rfl⟩ (λi _ h=>by rw[h0]at h;cases h)
  (by unfold left;exact Nat.le_trans (List.length_filter_le _ _) sM)
 have e:bD ops (λ_=>undef) (λj=>(Array.replicate ops.length false).getD j false) k a=a:=by
  have:∀n,bD ops (λ_=>undef) (λj=>(Array.replicate ops.length false).getD j false) n a=a:=by
   intro n
   induction n with
   | zero=>rfl
   | succ n u=>unfold bD;rw[h0,u];rfl
  exact this k
 rw[e]at this;simpa using this
end
end Q
namespace Q
open Go Go.RowKit
structure cZ where
 eqv:Option Value
 p:Value->World->Prop
 mono:∀v w w',Below w.heap.size w w'->p v w->p v w'
 is:∀c,eqv=some c->∀v w,p v w->v=c
def cZ.of (p:Value->World->Prop) (mono:∀v w w',Below w.heap.size w w'->p v w->p v w'):cZ:=⟨none,p,mono,λ_ h=>by cases h⟩
def cZ.eq (c:Value):cZ:=⟨some c,λv _=>v=c,λ_ _ _ _ h=>h,λc' h v w hv=>by cases h;exact hv⟩
def cZ.any:cZ:=cZ.of (λ_ _=>True) (λ_ _ _ _ h=>h)
def XQ (fs:List cZ) (i:Nat) (v:Value) (w:World):Prop:=(fs.getD i .any).p v w
def qA (P:Program) (ops:Array Oper) (Q:Exit->Act->World->Prop) (rest:List Oper) (w':World):List cZ->List Tmp->Act->Prop
 | f::fs,d::ds,a=>match f.eqv with
  | some c=>qA P ops Q rest w' fs ds (a.put (some d) c)
  | none=>∀v,f.p v w'->qA P ops Q rest w' fs ds (a.put (some d) v)
 | _,_,a=>wpList P ops Q rest a w'
theorem FW{P:Program}{ops:List Oper}{k:Array Oper}{Q:Exit->Act->World->Prop}{rest:List Oper}{w':World}{vs:Nat->Value}{a:Act} :
  ∀(l:List cZ)(b:List Tmp)(i:Nat),l.length=b.length->(∀j (f:cZ),l[j]?=some f->f.p (vs (i+j)) w')->(∀j (d:Tmp),b[j]?=some d->bG ops (i+j)=some d) ->
   qA P k Q rest w' l b (bD ops vs (λ_=>true) i a)->wpList P k Q rest (bD ops vs (λ_=>true) (i+b.length) a) w'
 | [],[],i,_,_,_,h=>h
 | f::l,d::b,i,hl,hf,hd,h=>by
  have n:=hf 0 f rfl
  have q:qA P k Q rest w' l b ((bD ops vs (λ_=>true) i a).put (some d) (vs i)):=by
   unfold qA at h;split at h
   ·rename_i c hc;have:=f.is c hc _ _ n;rw[Nat.add_zero]at this;rw[this];exact h
   ·exact h _ n
  have e:bD ops vs (λ_=>true) (i+1) a=(bD ops vs (λ_=>true) i a).put (some d) (vs i):=by simp only[bD,if_true,show bG ops i=some d from hd 0 d rfl]
  have:=FW l b (i+1) (by simpa using hl) (λj o m=>by rw[(oM:i+1+j=i+(j+1))];exact hf (j+1) o (by simpa using m))
   (λj d' m=>by rw[(oM:i+1+j=i+(j+1))];exact hd (j+1) d' (by simpa using m)) (by rw[e];exact q)
  rw[show i+(d::b).length=i+1+b.length by simp;omega];exact this
 | [],_::_,_,h,_,_,_=>by simp at h
 | _::_,[],_,h,_,_,_=>by simp at h
theorem vW{φ:Nat->Value->World->Prop}{vs:Nat->Value}{w:World}:∀k i,wU φ vs w k->i<k->φ i (vs i) w
 | 0,_,_,h=>by omega
 | k+1,i,h,hi=>by
  rcases Nat.eq_or_lt_of_le (Nat.lt_succ_iff.1 hi)with e|e
  ·subst e;exact h.2
  ·exact vW k i h.1 e
theorem je{P:Program}{ops:List Oper}{Q:Exit->Act->World->Prop}{a:Act}{w0:World}{id:Nat}(hm:P.follows .mixedOrders=true)(b:List cZ)(e:List Tmp)
  (x:jY ops b.length=true) (p:((ops.take b.length).map (·.dst))=e.map some) (r:e.all (λd=>decide (d<a.tmps.size))=true)
  (k:vT P ops (XQ b) b.length Q a w0 0 (ops.take b.length))
  (htail:∀w',Below w0.heap.size w0 w'->qA P ops.toArray Q (ops.drop b.length) w' b e a) :
  (Code.region id ops.toArray true).wp P Q a w0:=by
 have mR:=CV x
 have m:e.length=b.length:=by have:=congrArg List.length p;simp only[List.length_map,List.length_take]at this;omega
 have l:∀i d,e[i]?=some d->bG ops i=some d:=λi d hd=>by
  have n:i<e.length:=(gS.1 hd).1;have:((ops.take b.length).map (·.dst))[i]?=(e.map some)[i]?:=by rw[p]
  rw[List.getElem?_map,List.getElem?_map,hd,List.getElem?_take,if_pos oM]at this;unfold bG
  cases ho:ops[i]? with
  | none=>rw[ho]at this;cases this
  | some o=>rw[ho]at this;simpa using this
 refine BK hm (XQ b) b.length x ?_ ?_ k ?_
 ·rw[List.all_eq_true];intro i u;have y:=List.mem_range.1 u;have n:i<e.length:=oM;rw[l i e[i] (gE n)];exact List.all_eq_true.1 r _ (List.getElem_mem n)
 ·intro i u v w w' hb h;exact(b.getD i .any).mono v w w' hb h
 ·intro vs w' hb hf
  have:=FW (vs:=vs) (a:=a) (w':=w') b e 0 m.symm (λj f q=>by
   have s:j<b.length:=(gS.1 q).1;have:=vW _ j hf s;unfold XQ at this;rw[jD,q]at this
   simpa using this) (λj d q=>by rw[Nat.zero_add];exact l j d q) (htail w' hb)
  rw[Nat.zero_add,m]at this;exact this
end Q
namespace Q
open Go Go.RowKit
theorem jC{P:Program}{c:Code}{Q:Exit->Act->World->Prop}{a:Act}{w:World}{b:TypeId}{c1:List Value}
  (h:∀W,Below w.heap.size w W->Blk W w.heap.size b c1->w.heap.size+1<=W.heap.size->c.wp P Q a W):c.wp P Q a (w.alloc (.cells c1.toArray b)) :=
 h _ ((Below.refl _ _).alloc (nL _) _) (Blk.new _ _ _) sM
theorem yh{P:Program}{c:Code}{Q:Exit->Act->World->Prop}{a:Act}{w:World}{b d:TypeId}{c1 c2:List Value}
  (h:∀W,Below w.heap.size w W->Blk W w.heap.size b c1->Blk W (w.heap.size+1) d c2->w.heap.size+1+1<=W.heap.size->c.wp P Q a W) :
  c.wp P Q a ((w.alloc (.cells c1.toArray b)).alloc (.cells c2.toArray d)):=by
 refine h _ (((Below.refl _ _).alloc (nL _) _).alloc sM _) ((Blk.new _ _ _).alloc _) ?_ sM;have:=Blk.new (w.alloc (.cells c1.toArray b)) d c2;simpa using this
theorem uF{P:Program}{c:Code}{Q:Exit->Act->World->Prop}{a:Act}{w:World}{b d e:TypeId}{c1 c2 i:List Value}
  (h:∀W,Below w.heap.size w W->Blk W w.heap.size b c1->Blk W (w.heap.size+1) d c2->Blk W (w.heap.size+1+1) e i->w.heap.size+1+1+1<=W.heap.size->c.wp P Q a W) :
  c.wp P Q a (((w.alloc (.cells c1.toArray b)).alloc (.cells c2.toArray d)).alloc (.cells i.toArray e)):=by
 refine h _ ((((Below.refl _ _).alloc (nL _) _).alloc sM _).alloc (by simp;omega) _) (((Blk.new _ _ _).alloc _).alloc _) ?_ ?_ sM
 ·have:=(Blk.new (w.alloc (.cells c1.toArray b)) d c2).alloc (.cells i.toArray e);simpa using this
 ·have:=Blk.new ((w.alloc (.cells c1.toArray b)).alloc (.cells c2.toArray d)) e i;simpa using this
theorem Blk.at1{w:World}{g:Nat}{T:TypeId}{cs:List Value}(h:Blk w g T cs)(j:Nat)(v:Value)(hv:cs[j]?=some v):w.cell? ⟨g,j,none⟩=some v:=by rw[h.cell];exact hv
def cZ.u32 (p:List Int->Prop):cZ:=cZ.of (λv w=>∃l,dD w v l/\p l) (λ_ _ _ hb ⟨l,h,hp⟩=>⟨l,h.on hb,hp⟩)
def cZ.int (z:Int):cZ:=cZ.of (λv w=>∃neg m,v=.agg #[.bool neg,m]/\bC w neg m z) (λ_ _ _ hb ⟨n,m,e,h⟩=>⟨n,m,e,h.on hb⟩)
theorem CY{P:Program}{o:Oper}{A:Act}{w w':World}{i:Nat}{φ:Nat->Value->World->Prop}{Q:Exit->Act->World->Prop}{c:Value}(h:φ i c w')
  (b:(execOp A.eval o).run P w=.ok (.value c) w') (hb:Below w.heap.size w w'):o.wp P A w (λA' w'=>∃v,A'=A.put o.dst v/\Below w.heap.size w w'/\φ i v w') Q:=by
 unfold Oper.wp;rw[b];exact⟨c,rfl,hb,h⟩
theorem aU{P:Program}{o:Oper}{A:Act}{w:World}{i:Nat}{φ:Nat->Value->World->Prop}{Q:Exit->Act->World->Prop}{c:Value}(h:φ i c w)
  (b:(execOp A.eval o).run P w=.ok (.value c) w):o.wp P A w (λA' w'=>∃v,A'=A.put o.dst v/\Below w.heap.size w w'/\φ i v w') Q:=CY h b (Below.refl _ _)
theorem dH{P:Program}{o:Oper}{A:Act}{w:World}{i:Nat}{φ:Nat->Value->World->Prop}{Q:Exit->Act->World->Prop}{f:FuncId}{args:Array Value}
  (b:(execOp A.eval o).run P w=.ok (.enter f args) w) (h:Calls P f args w λe w'=>∃v,e=.returned v/\Below w.heap.size w w'/\φ i v w') :
  o.wp P A w (λA' w'=>∃v,A'=A.put o.dst v/\Below w.heap.size w w'/\φ i v w') Q:=by
 unfold Oper.wp;rw[b,Oper.upon_enter];refine h.mono ?_;rintro e w' ⟨v,rfl,hb,hv⟩;exact⟨v,rfl,hb,hv⟩
theorem Blk.range{w:World}{g:Nat}{T:TypeId}{cs:List Value}(h:Blk w g T cs)(o:Nat)(b:List Value)(hd:∀j v,b[j]?=some v->cs[o+j]?=some v):w.rangeAt g o b:=λj v hv=>by rw[h.cell];exact hd j v hv
theorem Blk.there{w:World}{g:Nat}{T:TypeId}{cs:List Value}(h:Blk w g T cs)(o n:Nat)(d:o+n<=cs.length):w.there g o n:=λj b =>
 ⟨by rw[h.cell,gE oM];rfl,h.frozen _⟩
theorem eO{g:Nat}{T:TypeId}:∀(vs:List Value)(o:Nat)(w:World)(cs:List Value),Blk w g T cs->o+vs.length<=cs.length ->
  Blk (w.setCells g o vs) g T (cs.take o++vs++cs.drop (o+vs.length))/\w.grownBy (w.setCells g o vs) (some g)
 | [],o,w,cs,h,_=>by simp only[World.setCells,List.append_nil,List.length_nil,Nat.add_zero,List.take_append_drop];exact⟨h,World.grownBy.refl _ _⟩
 | v::vs,o,w,cs,h,hl=>by
  simp only[List.length_cons]at hl;obtain⟨i,b⟩:=eO vs (o+1) (w.setCell ⟨g,o,none⟩ v) (cs.set o v) (h.set o v) (by simp;omega);refine⟨?_,?_⟩
  ·have e:(cs.set o v).take (o+1)++vs++(cs.set o v).drop (o+1+vs.length)=cs.take o++(v::vs)++cs.drop (o+(v::vs).length):=by
    rw[List.drop_set_of_lt oM,List.take_succ_eq_append_getElem (by simp;omega),List.take_set_of_le (nL _)];simp[Nat.add_assoc,Nat.add_comm 1]
   rw[e]at i;exact i
  ·refine⟨b.os,b.tape,b.output,by have:=b.size;simp only[World.setCells];exact Nat.le_trans (by simp[World.setCell]) this,λk j d=>?_⟩;have:=b.block k (by simpa[World.setCell]using j) d;simp only[World.setCells];rw[this,Below.heap_setCell _ _ _ _ (λe=>d (by rw[e]))]
theorem Blk.grown{w w':World}{g h:Nat}{T:TypeId}{cs:List Value}(d:Blk w g T cs)(hg:w.grownBy w' (some h))(b:g≠h):Blk w' g T cs:=by have:=hg.block g d.lt (by simpa using b);unfold Blk at *;rw[this];exact d
theorem aL{w w':World}{g B:Nat}(hg:w.grownBy w' (some g))(d:B<=w.heap.size)(b:B<=g):Below B w w':=(Below.refl _ _).grown hg d (λk e=>by cases e;exact b)
theorem aA{P:Program}{w:World}{ops:Array Oper}{rest:List Oper}{o:Oper}{a:Act}{Q:Exit->Act->World->Prop}(hg:o.guard=none)(ty:TypeId)(x y:Operand)(d:o.op=.store ty x y)
  (g:Nat) (T:TypeId) (cs:List Value) (vs:Array Value) (l:a.eval x=.pointer (some ⟨g,0,none⟩)) (m:a.eval y=.agg vs) (e:Blk w g T cs) (k:vs.size=cs.length)
  (j:(P.info? ty).map (·.size)=some vs.size) (b:vs.all (·.oneCell')=true)
  (i:∀w',Blk w' g T vs.toList->w.grownBy w' (some g)->wpList P ops Q rest (a.put o.dst undef) w'):wpList P ops Q (o::rest) a w:=by
 refine wpList_store_mid hg ty x y d g 0 vs l m (e.there 0 _ oM) j b ?_;obtain⟨b,h⟩:=eO vs.toList 0 w cs e (by simp;omega);refine i _ ?_ h;simpa[k]using b
theorem dY{P:Program}{fn:Func}{R:Ending->World->Prop}{a:Act}{w:World}{p:Tmp}{ty T:TypeId}{g:Nat}{cs:List Value}{d:TypeDesc}(b:fn.results=#[.cell p ty])(hd:a.defers=[])
  (hp:a.tmps.getD p undef=.pointer (some ⟨g,0,none⟩)) (e:Blk w g T cs) (hu:P.underlying ty=some d) (j:(match d with|.struct _|.array _ _=>true|_=>false)=true) (i:(P.info? ty).map (·.size)=some cs.length)
  (h:R (.returned (.agg cs.toArray)) w):bodyPost P fn R .ret a w :=
 bodyPost_ret (results_cell_row b a.tmps w g T cs.toArray (0,0) d hp e hu j (by simpa using i)) hd h
end Q
namespace Q
open Go Go.RowKit
theorem Zg{P:Program}{c:Code}{Q:Exit->Act->World->Prop}{a:Act}{w:World}{b d e T4:TypeId}{c1 c2 i j:List Value}
  (h:∀W,Below w.heap.size w W->Blk W w.heap.size b c1->Blk W (w.heap.size+1) d c2->Blk W (w.heap.size+1+1) e i->Blk W (w.heap.size+1+1+1) T4 j->w.heap.size+1+1+1+1<=W.heap.size->c.wp P Q a W) :
  c.wp P Q a ((((w.alloc (.cells c1.toArray b)).alloc (.cells c2.toArray d)).alloc (.cells i.toArray e)).alloc (.cells j.toArray T4)):=by
 refine h _ (((((Below.refl _ _).alloc (nL _) _).alloc sM _).alloc (by simp;omega) _).alloc (by simp;omega) _) ((((Blk.new _ _ _).alloc _).alloc _).alloc _) ?_ ?_ ?_ sM
 ·have:=((Blk.new (w.alloc (.cells c1.toArray b)) d c2).alloc (.cells i.toArray e)).alloc (.cells j.toArray T4);simpa using this
 ·have:=(Blk.new ((w.alloc (.cells c1.toArray b)).alloc (.cells c2.toArray d)) e i).alloc (.cells j.toArray T4);simpa using this
 ·have:=Blk.new (((w.alloc (.cells c1.toArray b)).alloc (.cells c2.toArray d)).alloc (.cells i.toArray e)) T4 j;simpa using this
end Q
