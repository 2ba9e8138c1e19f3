/- A region that draws its order, in which a constant floats: the tail need not wait for it. No program in sight. -/
import Derived.Test.YtopclbeomcggiaaGreatW05
set_option linter.unusedVariables false
set_option linter.unusedSimpArgs false
set_option maxHeartbeats 16000000
set_option maxRecDepth 100000
namespace Q
open Go Go.RowKit
section
variable {L:World->World->Prop} {pu fr:Nat->Bool} {P:Program} {ops:List Oper} {φ:Nat->Value->World->Prop} {k z:Nat} {Q:Exit->Act->World->Prop} {a:Act} {w0:World} {d:Tmp} {c:Value}
def xu (P:Program) (ops:Array Oper) (Q:Exit->Act->World->Prop) (z:Nat) (d:Tmp) (c:Value):List Oper->Act->World->Prop
 | [],A,w=>wpList P ops Q [] (A.put (some d) c) w
 | o::r,A,w=>wpList P ops Q (o::r) (A.put (some d) c) w/\(o.after.toList.any (λe=>Region.binds .any e&&e.on==z)=true\/(o.guard=none/\o.wp P A w (λA' w'=>xu P ops Q z d c r A' w') Q))
theorem xu.fst{b:Array Oper}:∀{l:List Oper}{A:Act}{w:World},xu P b Q z d c l A w->wpList P b Q l (A.put (some d) c) w
 | [],_,_,h=>h
 | _::_,_,_,h=>h.1
structure KL (P:Program) (ops:List Oper) (φ:Nat->Value->World->Prop) (k:Nat) (Q:Exit->Act->World->Prop) (z:Nat) (d:Tmp) (c:Value):Prop where
 lt:z<k
 op:∃o,ops[z]?=some o/\o.dst=some d/\o.guard=none/\(∀e∈o.after,¬Region.binds .any e=true)/\∀A w,o.wp P A w (λA' w'=>A'=A.put (some d) c/\w'=w) Q
 val:∀v w,φ z v w->v=c
theorem OG(S:oh ops k z=true)(hf:KL P ops φ k Q z d c):∀(fuel i:Nat)(listed:Array Bool)(A:Act)(w:World),k<=i->i<=ops.length->listed.size=ops.length ->
  (∀i o,listed.getD i false=true->ops[i]?=some o->∀e∈o.after,Region.binds .any e=true->listed.getD e.on false=true) ->
  (∀j,j<i->j≠z->listed.getD j false=true)->listed.getD z false=false->(∀j,i<=j->listed.getD j false=false)->ops.length-i+1<=fuel->xu P ops.toArray Q z d c (ops.drop i) A w ->
  wpAny P .any ops.toArray Q fuel listed A w:=by
 obtain⟨oz,y,Y,I,O,R⟩:=hf.op;have M:=hf.lt;intro fuel
 induction fuel with
 | zero=>intro i listed A w _ _ _ _ _ _ _ h;omega
 | succ fuel ih =>
  intro i listed A w L hi q C s hz p Z h;have F:z∈Region.ready .any ops.toArray listed:=mem_ready.2 ⟨by rw[eZ oM];exact hz,oz,by rw[fP];exact y,λe he hb=>absurd hb (O e he)⟩;refine⟨λhn=>(by rw[hn]at F;cases F),λj hj=>?_⟩;obtain⟨H,oj,b,hall⟩:=mem_ready.1 hj;rw[fP]at b;have l:j<ops.length:=(gS.1 b).1;rw[eZ oM]at H;by_cases u:j=z
  ·subst u;rw[y]at b;cases b;unfold wpOp;rw[fP,y];simp only;rw[if_pos (by simp[Region.wanted,I])];left;refine Oper.wp_mono ?_ (R A w);rintro A' w' ⟨rfl,rfl⟩;refine yI S (.inl M) fuel i _ _ _ L hi (by simpa using q) (λm hm=>?_) (λm hm=>?_) oM h.fst
   ·by_cases n:m=j
    ·subst n;simp[Array.getD_eq_getD_getElem?,q,l]
    ·rw[getD_set_ne _ (Ne.symm n)];exact s m hm n
   ·rw[getD_set_ne _ oM];exact p m hm
  ·have J:i<=j:=by
    rcases Nat.lt_or_ge j i with h'|h'
    ·rw[s j h' u]at H;cases H
    ·exact h'
   have K:j=i:=by
    rcases Nat.eq_or_lt_of_le J with h'|h'
    ·exact h'.symm
    ·exfalso;obtain⟨a0,r,G,hreach'⟩:=nP S (oM:k<=j) l;rw[b]at r;cases r;have:=gF C _ _ (λe he hb=>hall e (by simpa using he) hb) (hreach' i h' oM);rw[p i (nL _)]at this;cases this
   subst K
   have hd:ops.drop j=oj::ops.drop (j+1):=by
    rw[List.drop_eq_getElem_cons l]
    congr 1
    rw[gE l]at b;exact Option.some.inj b
   rw[hd]at h;obtain⟨-,h⟩:=h;rcases h with h|⟨hg,h⟩
   ·exfalso;simp only[List.any_eq_true,Bool.and_eq_true,beq_iff_eq]at h;obtain⟨e,he,hb,rfl⟩:=h;have:=hall e (by simpa using he) hb;rw[hz]at this;cases this
   ·unfold wpOp;rw[fP,b];simp only;rw[if_pos (by simp[Region.wanted,hg])];left;refine Oper.wp_mono ?_ h;intro A' w' X;refine ih (j+1) _ A' w' oM oM (by simpa using q) ?_ ?_ ?_ ?_ oM X
    ·intro W o' E x e he B;by_cases D:W=j
     ·subst D;rw[b]at x;cases x;exact getD_set_true (hall e he B)
     ·rw[getD_set_ne _ (Ne.symm D)]at E;exact getD_set_true (C W o' E x e he B)
    ·intro m hm N;by_cases n:m=j
     ·subst n;simp[Array.getD_eq_getD_getElem?,q,l]
     ·rw[getD_set_ne _ (Ne.symm n)];exact s m oM N
    ·rw[getD_set_ne _ u];exact hz
    ·intro m hm;rw[getD_set_ne _ oM];exact p m oM
end
def ul {L:World->World->Prop} (K:Act->Prop) (z:Nat) (w':World):Nat->List (af L)->List Tmp->Act->Prop
 | i,f::fs,d::ds,a=>bif i==z then ul K z w' (i+1) fs ds a else match f.eqv with
  | some c=>ul K z w' (i+1) fs ds (a.put (some d) c)
  | none=>∀v,f.p v w'->ul K z w' (i+1) fs ds (a.put (some d) v)
 | _,_,_,a=>K a
theorem Ck{L:World->World->Prop}{ops:List Oper}{K:Act->Prop}{z:Nat}{w':World}{vs:Nat->Value}{a:Act} :
  ∀(k:List (af L))(e:List Tmp)(i:Nat),k.length=e.length->(∀j (f:af L),k[j]?=some f->i+j≠z->f.p (vs (i+j)) w')->(∀j (d:Tmp),e[j]?=some d->bg ops (i+j)=some d) ->
   ul K z w' i k e (bf ops vs (λj=>j != z) i a)->K (bf ops vs (λj=>j != z) (i+e.length) a)
 | [],[],i,_,_,_,h=>h
 | f::k,d::e,i,hl,hf,hd,h=>by
  have m:bg ops i=some d:=hd 0 d rfl
  have q:ul K z w' (i+1) k e (bf ops vs (λj=>j != z) (i+1) a):=by
   unfold ul at h;by_cases b:i=z
   ·have:(i==z)=true:=by simpa using b
    rw[this]at h;simp only[bf,show(i != z)=false from by simp[b]];exact h
   ·have:(i==z)=false:=by simpa using b
    rw[this]at h;have l:=hf 0 f rfl b;rw[Nat.add_zero]at l;simp only[bf,show(i != z)=true from by simp[b],if_true,m];simp only[cond_false]at h;split at h
    ·rename_i c hc;rw[f.is c hc _ _ l];exact h
    ·exact h _ l
  have:=Ck k e (i+1) (by simpa using hl) (λj o n hz=>by rw[(oM:i+1+j=i+(j+1))]at hz ⊢;exact hf (j+1) o (by simpa using n) hz)
   (λj d' n=>by rw[(oM:i+1+j=i+(j+1))];exact hd (j+1) d' (by simpa using n)) q
  rw[show i+(d::e).length=i+1+e.length by simp;omega];exact this
 | [],_::_,_,h,_,_,_=>by simp at h
 | _::_,[],_,h,_,_,_=>by simp at h
theorem OH{P:Program}{ops:List Oper}{Q:Exit->Act->World->Prop}{g:Option Nat}{T:TypeId}{i:List (af (Lr g T))}{z:Nat}{d:Tmp}{c:Value}
  (h:∃o,ops[z]?=some o/\o.dst=some d/\o.guard=none/\o.after.toList.all (λe=>!Region.binds .any e)=true/\i[z]?=some (.eq c)/\∀(A:Act) w,(execOp A.eval o).run P w=.ok (.value c) w):KL P ops (qD i) i.length Q z d c:=by
 obtain⟨o,j,hd,hg,he,hf,b⟩:=h;refine⟨(gS.1 hf).1,⟨o,j,hd,hg,λe h hb=>?_,λA w=>?_⟩,λv w hv=>?_⟩
 ·have:=List.all_eq_true.1 he e (by simpa using h);rw[hb]at this;cases this
 ·unfold Oper.wp;rw[b A w];exact⟨by rw[hd],rfl⟩
 ·unfold qD at hv;rw[jD,hf]at hv;exact hv
theorem Gh{P:Program}{ops:List Oper}{Q:Exit->Act->World->Prop}{a:Act}{w0:World}{id:Nat}(hm:P.follows .mixedOrders=true)(g:Option Nat)(T:TypeId)(Y:fK g T w0)(b:List (af (Lr g T)))(s:List Tmp)(D:Nat->Bool)(z:Nat)(d:Tmp)(c:Value)
  (hD:ED (Lr g T) (PK b) (PL b) P ops (qD b) b.length Q w0 D) (B:KL P ops (qD b) b.length Q z d c) (R:D z=false)
  (O:oh ops b.length z=true) (a4:vP ops (PK b) (PL b) b.length=true) (S:((ops.take b.length).map (·.dst))=s.map some) (a6:s.all (λd=>decide (d<a.tmps.size))=true)
  (F:pW (vO ops b.length) (Lr g T) (PK b) (PL b) P ops (qD b) b.length Q a w0 0 (ops.take b.length))
  (M:∀w' vs,Lr g T w0 w'->(∀i j,i<b.length->j<b.length->i≠j->D i=true->D j=true->vs i≠vs j)->ul (λA=>xu P ops.toArray Q z d c (ops.drop b.length) A w') z w' 0 (uf D vs 0 b) s a) :
  (Code.region id ops.toArray true).wp P Q a w0:=by
 have kQ:=qR O
 have J:s.length=b.length:=by have:=congrArg List.length S;simp only[List.length_map,List.length_take]at this;omega
 have H:∀i d,s[i]?=some d->bg ops i=some d:=λi d hd=>by
  have L:i<s.length:=(gS.1 hd).1;have:((ops.take b.length).map (·.dst))[i]?=(s.map some)[i]?:=by rw[S]
  rw[List.getElem?_map,List.getElem?_map,hd,List.getElem?_take,if_pos oM]at this;unfold bg
  cases ho:ops[i]? with
  | none=>rw[ho]at this;cases this
  | some o=>rw[ho]at this;simpa using this
 have E:=B.lt;obtain⟨oz,a9,a3,-,-,-⟩:=B.op;have I:bg ops z=some d:=by unfold bg;rw[a9];exact a3
 refine qU hD hm (λh n=>h.trans n) (λh=>h.refl') (λh n=>(Y.lr h).below n) a4 O ?_ ?_ ?_ F ?_
 ·exact Y.below ⟨rfl,rfl,rfl,nL _,λ_ _=>rfl⟩
 ·rw[List.all_eq_true];intro i W;have aa:=List.mem_range.1 W;have L:i<s.length:=oM;rw[H i s[i] (gE L)];exact List.all_eq_true.1 a6 _ (List.getElem_mem L)
 ·intro i W hf v w w' hb h;exact(b.getD i .any).mono hf v w w' hb h
 ·intro fuel listed vs w r a0 hall' q hb Z a2 hf
  have hT:xu P ops.toArray Q z d c (ops.drop b.length) (bf ops vs (λj=>j != z) b.length a) w:=by
   have hp:∀j (f:af (Lr g T)),(uf D vs 0 b)[j]?=some f->0+j≠z->f.p (vs (0+j)) w:=by
    intro j f m X;rw[Nat.zero_add]at X ⊢
    have C:j<b.length:=by have:=(gS.1 m).1;rwa[xe]at this
    have N:=Z j C (hall' j C X);unfold qD at N;rw[jD,gE C]at N
    have:∀(l:List (af (Lr g T)))(i j:Nat)(x f:af (Lr g T)),l[j]?=some x->(uf D vs i l)[j]?=some f->x.p (vs (i+j)) w->f.p (vs (i+j)) w:=by
     intro l
     induction l with
     | nil=>intro i j x f h;simp at h
     | cons y l ih =>
      intro i j x f h n hx
      cases j with
      | zero =>
       simp only[List.getElem?_cons_zero,sJ]at h;simp only[uf,List.getElem?_cons_zero,sJ]at n;subst h;subst n
       cases hd:D i with
       | true=>exact⟨hx,rfl⟩
       | false=>exact hx
      | succ j =>
       simp only[List.getElem?_cons_succ]at h;simp only[uf,List.getElem?_cons_succ]at n;rw[(oM:i+(j+1)=i+1+j)]at hx ⊢;exact ih (i+1) j x f h n hx
    have h2:=this b 0 j b[j] f (gE C) m (by rw[Nat.zero_add];exact N);rwa[Nat.zero_add]at h2
   have h3:=M w vs hb λi j W m a5 h n=>a2 i j W m a5 h n (hall' i W (λe=>by rw[e,R]at h;cases h)) (hall' j m (λe=>by rw[e,R]at n;cases n));have:=Ck (vs:=vs) (a:=a) (uf D vs 0 b) s 0 ((xe b 0).trans J.symm) hp (λj d m=>by rw[Nat.zero_add];exact H j d m) h3;rw[Nat.zero_add,J]at this;exact this
  cases hz:listed.getD z false with
  | true =>
   have G:∀j,j<b.length->listed.getD j false=true:=λj m=>by
    by_cases h:j=z
    ·rw[h];exact hz
    ·exact hall' j m h
   refine yI O (.inl E) _ b.length listed _ w (nL _) kQ r G q (Nat.le_trans (Ky kQ r q) hf) ?_;have N:=hT.fst;have hc:=B.val _ _ (Z z E hz)
   have a1:∀j,j<b.length->j≠z->bg ops z≠none->bg ops j≠bg ops z:=by
    intro j m ab _;obtain⟨o1,a7,_,_,K⟩:=gQ O E;rcases Nat.lt_or_ge j z with h|h
    ·have e1:bg ops z=o1.dst:=by simp[bg,a7]
     rw[e1];exact K j h
    ·obtain⟨o2,a8,_,_,u⟩:=gQ O m;have e2:bg ops j=o2.dst:=by simp[bg,a8]
     rw[e2];exact λn=>u z oM n.symm
   have h2:=rO (a:=a) (vs:=vs) (v:=vs z) (p:=λj=>j != z) (i:=z) sM a1 ⟨d,I⟩ b.length E (nL _);rw[I,hc]at h2;rw[<-h2]at N;rwa[gp (vs':=vs) (p':=λj=>listed.getD j false) b.length (λj m=>?_) (λj _ _=>?_)]at N
   ·rw[G j m];by_cases h:j=z<;>simp[h]
   ·by_cases h:j=z
    ·rw[if_pos h,h];exact hc.symm
    ·rw[if_neg h]
  | false =>
   have hl:=BJ r (i:=z) (by rw[eZ oM];exact hz);have hk:=Ky (ops:=ops) (k:=b.length) (listed:=listed.setIfInBounds z true) kQ (by simpa using r) λj m=>by rw[getD_set_ne _ oM];exact q j m
   refine OG O B fuel b.length listed _ w (nL _) kQ r a0 hall' hz q oM ?_;rwa[gp (vs':=vs) (p':=λj=>listed.getD j false) b.length (λj m=>?_) (λj _ _=>rfl)]at hT;by_cases h:j=z
   ·subst h;rw[hz];simp
   ·rw[hall' j m h];simp[h]
theorem zX{P:Program}{b:Array Oper}{Q:Exit->Act->World->Prop}{rest:List Oper}{o:Oper}{a:Act}{w:World}{z:Nat}{d:Tmp}{c:Value}(hg:o.guard=none)(ty:TypeId)(x y:Tmp)(i:o.op=.store ty (.tmp x) (.tmp y))(n:x≠d)(q:y≠d)(hd:o.dst=none)
  (g:Nat) (T:TypeId) (cs:List Value) (vs:Array Value) (s:a.eval (.tmp x)=.pointer (some ⟨g,0,none⟩)) (u:a.eval (.tmp y)=.agg vs) (l:Blk w g T cs) (D:vs.size=cs.length)
  (r:(P.info? ty).map (·.size)=some vs.size) (j:vs.all (·.oneCell')=true)
  (C:∀w',Blk w' g T vs.toList->w.grownBy w' (some g)->xu P b Q z d c rest a w'):xu P b Q z d c (o::rest) a w:=by
 have hb:xu P b Q z d c rest a (w.setCells g 0 vs.toList):=by obtain⟨j,B⟩:=dW vs.toList 0 w cs l (by simp;omega);exact C _ (by simpa[D]using j) B
 have m:(a.put (some d) c).eval (.tmp x)=.pointer (some ⟨g,0,none⟩):=by rw[Act.eval_put (λe h k=>by cases h;cases k;exact n rfl)];exact s
 have p:(a.put (some d) c).eval (.tmp y)=.agg vs:=by rw[Act.eval_put (λe h k=>by cases h;cases k;exact q rfl)];exact u
 refine⟨wpList_store_mid hg ty (.tmp x) (.tmp y) i g 0 vs m p (l.there 0 _ oM) r j ?_,.inr ⟨hg,wp_store_mid ty (.tmp x) (.tmp y) i g 0 vs s u (l.there 0 _ oM) r j ?_⟩⟩
 ·rw[hd];exact hb.fst
 ·rw[hd];exact hb
end Q
