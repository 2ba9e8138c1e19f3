/- A region that draws its order, in which a constant floats: the tail need not wait for it. No program in sight. -/
import Derived.Test.YtopclbeomcggiaaGreatW05
set_option linter.unusedVariables false
set_option linter.unusedSimpArgs false
set_option maxHeartbeats 16000000
set_option maxRecDepth 100000
namespace Q
open Go Go.RowKit
section
variable {L:World->World->Prop} {pu fr:Nat->Bool} {P:Program} {ops:List Oper} {φ:Nat->Value->World->Prop} {k z:Nat} {Q:Exit->Act->World->Prop} {a:Act} {w0:World} {d:Tmp} {c:Value}
def wZ (P:Program) (ops:Array Oper) (Q:Exit->Act->World->Prop) (z:Nat) (d:Tmp) (c:Value):List Oper->Act->World->Prop
 | [],A,w=>wpList P ops Q [] (A.put (some d) c) w
 | o::r,A,w=>wpList P ops Q (o::r) (A.put (some d) c) w/\(o.after.toList.any (λe=>Region.binds .any e&&e.on==z)=true\/(o.guard=none/\o.wp P A w (λA' w'=>wZ P ops Q z d c r A' w') Q))
theorem wZ.fst{b:Array Oper}:∀{l:List Oper}{A:Act}{w:World},wZ P b Q z d c l A w->wpList P b Q l (A.put (some d) c) w
 | [],_,_,h=>h
 | _::_,_,_,h=>h.1
structure KC (P:Program) (ops:List Oper) (φ:Nat->Value->World->Prop) (k:Nat) (Q:Exit->Act->World->Prop) (z:Nat) (d:Tmp) (c:Value):Prop where
 lt:z<k
 op:∃o,ops[z]?=some o/\o.dst=some d/\o.guard=none/\(∀e∈o.after,¬Region.binds .any e=true)/\∀A w,o.wp P A w (λA' w'=>A'=A.put (some d) c/\w'=w) Q
 val:∀v w,φ z v w->v=c
theorem Ox(S:nU ops k z=true)(hf:KC P ops φ k Q z d c):∀(fuel i:Nat)(listed:Array Bool)(A:Act)(w:World),k<=i->i<=ops.length->listed.size=ops.length ->
  (∀i o,listed.getD i false=true->ops[i]?=some o->∀e∈o.after,Region.binds .any e=true->listed.getD e.on false=true) ->
  (∀j,j<i->j≠z->listed.getD j false=true)->listed.getD z false=false->(∀j,i<=j->listed.getD j false=false)->ops.length-i+1<=fuel->wZ P ops.toArray Q z d c (ops.drop i) A w ->
  wpAny P .any ops.toArray Q fuel listed A w:=by
 obtain⟨oz,s,a0,M,I,J⟩:=hf.op;have H:=hf.lt;intro fuel
 induction fuel with
 | zero=>intro i listed A w _ _ _ _ _ _ _ h;omega
 | succ fuel ih =>
  intro i listed A w L Z q F u hz p X h;have C:z∈Region.ready .any ops.toArray listed:=mem_ready.2 ⟨by rw[eZ oM];exact hz,oz,by rw[fP];exact s,λe he hb=>absurd hb (I e he)⟩;refine⟨λhn=>(by rw[hn]at C;cases C),λj Y=>?_⟩;obtain⟨O,oj,b,hall⟩:=mem_ready.1 Y;rw[fP]at b;have l:j<ops.length:=(List.getElem?_eq_some_iff.1 b).1;rw[eZ oM]at O;by_cases y:j=z
  ·subst y;rw[s]at b;cases b;unfold wpOp;rw[fP,s];simp only;rw[if_pos (by simp[Region.wanted,M])];left;refine Oper.wp_mono ?_ (J A w);rintro A' w' ⟨rfl,rfl⟩;refine yA S (.inl H) fuel i _ _ _ L Z (by simpa using q) (λm hm=>?_) (λm hm=>?_) oM h.fst
   ·by_cases n:m=j
    ·subst n;simp[Array.getD_eq_getD_getElem?,q,l]
    ·rw[getD_set_ne _ (Ne.symm n)];exact u m hm n
   ·rw[getD_set_ne _ oM];exact p m hm
  ·have N:i<=j:=by
    rcases Nat.lt_or_ge j i with h'|h'
    ·rw[u j h' y]at O;cases O
    ·exact h'
   have R:j=i:=by
    rcases Nat.eq_or_lt_of_le N with h'|h'
    ·exact h'.symm
    ·exfalso;obtain⟨a1,r,G,hreach'⟩:=nI S (oM:k<=j) l;rw[b]at r;cases r;have:=gF F _ _ (λe he hb=>hall e (by simpa using he) hb) (hreach' i h' oM);rw[p i (Nat.le_refl _)]at this;cases this
   subst R
   have hd:ops.drop j=oj::ops.drop (j+1):=by
    rw[List.drop_eq_getElem_cons l]
    congr 1
    rw[List.getElem?_eq_getElem l]at b;exact Option.some.inj b
   rw[hd]at h;obtain⟨-,h⟩:=h;rcases h with h|⟨hg,h⟩
   ·exfalso;simp only[List.any_eq_true,Bool.and_eq_true,beq_iff_eq]at h;obtain⟨e,he,hb,rfl⟩:=h;have:=hall e (by simpa using he) hb;rw[hz]at this;cases this
   ·unfold wpOp;rw[fP,b];simp only;rw[if_pos (by simp[Region.wanted,hg])];left;refine Oper.wp_mono ?_ h;intro A' w' hT;refine ih (j+1) _ A' w' oM oM (by simpa using q) ?_ ?_ ?_ ?_ oM hT
    ·intro W o' E x e he B;by_cases D:W=j
     ·subst D;rw[b]at x;cases x;exact getD_set_true (hall e he B)
     ·rw[getD_set_ne _ (Ne.symm D)]at E;exact getD_set_true (F W o' E x e he B)
    ·intro m hm K;by_cases n:m=j
     ·subst n;simp[Array.getD_eq_getD_getElem?,q,l]
     ·rw[getD_set_ne _ (Ne.symm n)];exact u m oM K
    ·rw[getD_set_ne _ y];exact hz
    ·intro m hm;rw[getD_set_ne _ oM];exact p m oM
end
def tY {L:World->World->Prop} (K:Act->Prop) (z:Nat) (w':World):Nat->List (af L)->List Tmp->Act->Prop
 | i,f::fs,d::ds,a=>bif i==z then tY K z w' (i+1) fs ds a else match f.eqv with
  | some c=>tY K z w' (i+1) fs ds (a.put (some d) c)
  | none=>∀v,f.p v w'->tY K z w' (i+1) fs ds (a.put (some d) v)
 | _,_,_,a=>K a
theorem BU{L:World->World->Prop}{ops:List Oper}{K:Act->Prop}{z:Nat}{w':World}{vs:Nat->Value}{a:Act} :
  ∀(k:List (af L))(e:List Tmp)(i:Nat),k.length=e.length->(∀j (f:af L),k[j]?=some f->i+j≠z->f.p (vs (i+j)) w')->(∀j (d:Tmp),e[j]?=some d->bg ops (i+j)=some d) ->
   tY K z w' i k e (bf ops vs (λj=>j != z) i a)->K (bf ops vs (λj=>j != z) (i+e.length) a)
 | [],[],i,_,_,_,h=>h
 | f::k,d::e,i,hl,hf,hd,h=>by
  have m:bg ops i=some d:=hd 0 d rfl
  have q:tY K z w' (i+1) k e (bf ops vs (λj=>j != z) (i+1) a):=by
   unfold tY at h;by_cases b:i=z
   ·have:(i==z)=true:=by simpa using b
    rw[this]at h;simp only[bf,show(i != z)=false from by simp[b]];exact h
   ·have:(i==z)=false:=by simpa using b
    rw[this]at h;have l:=hf 0 f rfl b;rw[Nat.add_zero]at l;simp only[bf,show(i != z)=true from by simp[b],if_true,m];simp only[cond_false]at h;split at h
    ·rename_i c hc;rw[f.is c hc _ _ l];exact h
    ·exact h _ l
  have:=BU k e (i+1) (by simpa using hl) (λj o n hz=>by rw[(oM:i+1+j=i+(j+1))]at hz ⊢;exact hf (j+1) o (by simpa using n) hz)
   (λj d' n=>by rw[(oM:i+1+j=i+(j+1))];exact hd (j+1) d' (by simpa using n)) q
  rw[show i+(d::e).length=i+1+e.length by simp;omega];exact this
 | [],_::_,_,h,_,_,_=>by simp at h
 | _::_,[],_,h,_,_,_=>by simp at h
theorem Oy{P:Program}{ops:List Oper}{Q:Exit->Act->World->Prop}{g:Option Nat}{T:TypeId}{i:List (af (Lr g T))}{z:Nat}{d:Tmp}{c:Value}
  (h:∃o,ops[z]?=some o/\o.dst=some d/\o.guard=none/\o.after.toList.all (λe=>!Region.binds .any e)=true/\i[z]?=some (.eq c)/\∀(A:Act) w,(execOp A.eval o).run P w=.ok (.value c) w):KC P ops (qw i) i.length Q z d c:=by
 obtain⟨o,j,hd,hg,he,hf,b⟩:=h;refine⟨(List.getElem?_eq_some_iff.1 hf).1,⟨o,j,hd,hg,λe h hb=>?_,λA w=>?_⟩,λv w hv=>?_⟩
 ·have:=List.all_eq_true.1 he e (by simpa using h);rw[hb]at this;cases this
 ·unfold Oper.wp;rw[b A w];exact⟨by rw[hd],rfl⟩
 ·unfold qw at hv;rw[List.getD_eq_getElem?_getD,hf]at hv;exact hv
theorem F7{P:Program}{ops:List Oper}{Q:Exit->Act->World->Prop}{a:Act}{w0:World}{id:Nat}(hm:P.follows .mixedOrders=true)(g:Option Nat)(T:TypeId)(X:fK g T w0)(b:List (af (Lr g T)))(s:List Tmp)(D:Nat->Bool)(z:Nat)(d:Tmp)(c:Value)
  (hD:Es (Lr g T) (Px b) (Py b) P ops (qw b) b.length Q w0 D) (C:KC P ops (qw b) b.length Q z d c) (Z:D z=false)
  (O:nU ops b.length z=true) (a9:vH ops (Px b) (Py b) b.length=true) (R:((ops.take b.length).map (·.dst))=s.map some) (a4:s.all (λd=>decide (d<a.tmps.size))=true)
  (E:pM (vG ops b.length) (Lr g T) (Px b) (Py b) P ops (qw b) b.length Q a w0 0 (ops.take b.length))
  (K:∀w' vs,Lr g T w0 w'->(∀i j,i<b.length->j<b.length->i≠j->D i=true->D j=true->vs i≠vs j)->tY (λA=>wZ P ops.toArray Q z d c (ops.drop b.length) A w') z w' 0 (tN D vs 0 b) s a) :
  (Code.region id ops.toArray true).wp P Q a w0:=by
 have kL:=qL O
 have H:s.length=b.length:=by have:=congrArg List.length R;simp only[List.length_map,List.length_take]at this;omega
 have G:∀i d,s[i]?=some d->bg ops i=some d:=λi d hd=>by
  have M:i<s.length:=(List.getElem?_eq_some_iff.1 hd).1;have:((ops.take b.length).map (·.dst))[i]?=(s.map some)[i]?:=by rw[R]
  rw[List.getElem?_map,List.getElem?_map,hd,List.getElem?_take,if_pos oM]at this;unfold bg
  cases ho:ops[i]? with
  | none=>rw[ho]at this;cases this
  | some o=>rw[ho]at this;simpa using this
 have u:=C.lt;obtain⟨oz,a2,a5,-,-,-⟩:=C.op;have I:bg ops z=some d:=by unfold bg;rw[a2];exact a5
 refine qM hD hm (λh q=>h.trans q) (λh=>h.refl') (λh q=>(X.lr h).below q) a9 O ?_ ?_ ?_ E ?_
 ·exact X.below ⟨rfl,rfl,rfl,Nat.le_refl _,λ_ _=>rfl⟩
 ·rw[List.all_eq_true];intro i S;have aa:=List.mem_range.1 S;have M:i<s.length:=oM;rw[G i s[i] (List.getElem?_eq_getElem M)];exact List.all_eq_true.1 a4 _ (List.getElem_mem M)
 ·intro i S hf v w w' hb h;exact(b.getD i .any).mono hf v w w' hb h
 ·intro fuel listed vs w r a8 hall' n hb W a6 hf
  have hT:wZ P ops.toArray Q z d c (ops.drop b.length) (bf ops vs (λj=>j != z) b.length a) w:=by
   have hp:∀j (f:af (Lr g T)),(tN D vs 0 b)[j]?=some f->0+j≠z->f.p (vs (0+j)) w:=by
    intro j f m Y;rw[Nat.zero_add]at Y ⊢
    have B:j<b.length:=by have:=(List.getElem?_eq_some_iff.1 m).1;rwa[wT]at this
    have N:=W j B (hall' j B Y);unfold qw at N;rw[List.getD_eq_getElem?_getD,List.getElem?_eq_getElem B]at N
    have:∀(l:List (af (Lr g T)))(i j:Nat)(x f:af (Lr g T)),l[j]?=some x->(tN D vs i l)[j]?=some f->x.p (vs (i+j)) w->f.p (vs (i+j)) w:=by
     intro l
     induction l with
     | nil=>intro i j x f h;simp at h
     | cons y l ih =>
      intro i j x f h q hx
      cases j with
      | zero =>
       simp only[List.getElem?_cons_zero,Option.some.injEq]at h;simp only[tN,List.getElem?_cons_zero,Option.some.injEq]at q;subst h;subst q
       cases hd:D i with
       | true=>exact⟨hx,rfl⟩
       | false=>exact hx
      | succ j =>
       simp only[List.getElem?_cons_succ]at h;simp only[tN,List.getElem?_cons_succ]at q;rw[(oM:i+(j+1)=i+1+j)]at hx ⊢;exact ih (i+1) j x f h q hx
    have h2:=this b 0 j b[j] f (List.getElem?_eq_getElem B) m (by rw[Nat.zero_add];exact N);rwa[Nat.zero_add]at h2
   have h3:=K w vs hb λi j S m a3 h q=>a6 i j S m a3 h q (hall' i S (λe=>by rw[e,Z]at h;cases h)) (hall' j m (λe=>by rw[e,Z]at q;cases q));have:=BU (vs:=vs) (a:=a) (tN D vs 0 b) s 0 ((wT b 0).trans H.symm) hp (λj d m=>by rw[Nat.zero_add];exact G j d m) h3;rw[Nat.zero_add,H]at this;exact this
  cases hz:listed.getD z false with
  | true =>
   have J:∀j,j<b.length->listed.getD j false=true:=λj m=>by
    by_cases h:j=z
    ·rw[h];exact hz
    ·exact hall' j m h
   refine yA O (.inl u) _ b.length listed _ w (Nat.le_refl _) kL r J n (Nat.le_trans (Kl kL r n) hf) ?_;have N:=hT.fst;have hc:=C.val _ _ (W z u hz)
   have a0:∀j,j<b.length->j≠z->bg ops z≠none->bg ops j≠bg ops z:=by
    intro j m ab _;obtain⟨o1,a7,_,_,L⟩:=gP O u;rcases Nat.lt_or_ge j z with h|h
    ·have e1:bg ops z=o1.dst:=by simp[bg,a7]
     rw[e1];exact L j h
    ·obtain⟨o2,a1,_,_,F⟩:=gP O m;have e2:bg ops j=o2.dst:=by simp[bg,a1]
     rw[e2];exact λq=>F z oM q.symm
   have h2:=rE (a:=a) (vs:=vs) (v:=vs z) (p:=λj=>j != z) (i:=z) sM a0 ⟨d,I⟩ b.length u (Nat.le_refl _);rw[I,hc]at h2;rw[<-h2]at N;rwa[gp (vs':=vs) (p':=λj=>listed.getD j false) b.length (λj m=>?_) (λj _ _=>?_)]at N
   ·rw[J j m];by_cases h:j=z<;>simp[h]
   ·by_cases h:j=z
    ·rw[if_pos h,h];exact hc.symm
    ·rw[if_neg h]
  | false =>
   have hl:=Bt r (i:=z) (by rw[eZ oM];exact hz);have hk:=Kl (ops:=ops) (k:=b.length) (listed:=listed.setIfInBounds z true) kL (by simpa using r) λj m=>by rw[getD_set_ne _ oM];exact n j m
   refine Ox O C fuel b.length listed _ w (Nat.le_refl _) kL r a8 hall' hz n oM ?_;rwa[gp (vs':=vs) (p':=λj=>listed.getD j false) b.length (λj m=>?_) (λj _ _=>rfl)]at hT;by_cases h:j=z
   ·subst h;rw[hz];simp
   ·rw[hall' j m h];simp[h]
theorem zP{P:Program}{b:Array Oper}{Q:Exit->Act->World->Prop}{rest:List Oper}{o:Oper}{a:Act}{w:World}{z:Nat}{d:Tmp}{c:Value}(hg:o.guard=none)(ty:TypeId)(x y:Tmp)(i:o.op=.store ty (.tmp x) (.tmp y))(n:x≠d)(p:y≠d)(hd:o.dst=none)
  (g:Nat) (T:TypeId) (cs:List Value) (vs:Array Value) (s:a.eval (.tmp x)=.pointer (some ⟨g,0,none⟩)) (r:a.eval (.tmp y)=.agg vs) (q:Blk w g T cs) (C:vs.size=cs.length)
  (u:(P.info? ty).map (·.size)=some vs.size) (j:vs.all (·.oneCell')=true)
  (D:∀w',Blk w' g T vs.toList->w.grownBy w' (some g)->wZ P b Q z d c rest a w'):wZ P b Q z d c (o::rest) a w:=by
 have hb:wZ P b Q z d c rest a (w.setCells g 0 vs.toList):=by obtain⟨j,B⟩:=dW vs.toList 0 w cs q (by simp;omega);exact D _ (by simpa[C]using j) B
 have l:(a.put (some d) c).eval (.tmp x)=.pointer (some ⟨g,0,none⟩):=by rw[Act.eval_put (λe h k=>by cases h;cases k;exact n rfl)];exact s
 have m:(a.put (some d) c).eval (.tmp y)=.agg vs:=by rw[Act.eval_put (λe h k=>by cases h;cases k;exact p rfl)];exact r
 refine⟨wpList_store_mid hg ty (.tmp x) (.tmp y) i g 0 vs l m (q.there 0 _ oM) u j ?_,.inr ⟨hg,wp_store_mid ty (.tmp x) (.tmp y) i g 0 vs s r (q.there 0 _ oM) u j ?_⟩⟩
 ·rw[hd];exact hb.fst
 ·rw[hd];exact hb
end Q
