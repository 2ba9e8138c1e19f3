/- A region that draws its order, in which one row of the function's own, or one map, may be written: by wM on its operations' values, under a relation on worlds. No program in sight. -/
import Derived.Test.YtopclbeomcggiaaGreatY04
import Derived.Deep.AppendLies
set_option linter.unusedVariables false
set_option linter.unusedSimpArgs false
set_option maxHeartbeats 16000000
set_option maxRecDepth 100000
section
namespace Q
open Go Go.RowKit
def lw (w:World) (k:Nat) (T:TypeId):Prop:=∀C T' fr,w.heap[k]?=some (.cells C T' fr)->T'=T
def Lr (g:Option Nat) (T:TypeId) (w w':World):Prop:=w.grownBy w' g/\∀k,g=some k->lw w k T/\lw w' k T
theorem ru{w w1 i:World}{g:Option Nat}(b:w.grownBy w1 g)(d:w1.grownBy i g):w.grownBy i g :=
 ⟨d.os.trans b.os,d.tape.trans b.tape,d.output.trans b.output,Nat.le_trans b.size d.size,λk h e=>(d.block k (Nat.lt_of_lt_of_le h b.size) e).trans (b.block k h e)⟩
theorem bX{w w':World}(h:Below w.heap.size w w')(g:Option Nat):w.grownBy w' g:=⟨h.os,h.tape,h.output,h.size,λk b _=>h.block k b⟩
theorem Lr.trans{g:Option Nat}{T:TypeId}{w w1 h:World}(b:Lr g T w w1)(d:Lr g T w1 h):Lr g T w h :=
 ⟨ru b.1 d.1,λk e=>⟨(b.2 k e).1,(d.2 k e).2⟩⟩
theorem Lr.refl{g:Option Nat}{T:TypeId}{w:World}(h:∀k,g=some k->lw w k T):Lr g T w w:=⟨World.grownBy.refl _ _,λk b=>⟨h k b,h k b⟩⟩
theorem Lr.refl'{g:Option Nat}{T:TypeId}{w w':World}(h:Lr g T w w'):Lr g T w' w':=Lr.refl λk b=>(h.2 k b).2
def fM (g:Option Nat) (T:TypeId) (w:World):Prop:=∀k,g=some k->k<w.heap.size/\lw w k T
theorem fM.none{T:TypeId}{w:World}:fM none T w:=λ_ h=>by cases h
theorem fM.refl{g:Option Nat}{T:TypeId}{w:World}(h:fM g T w):Lr g T w w:=Lr.refl λk b=>(h k b).2
theorem fM.below{g:Option Nat}{T:TypeId}{w w':World}(h:fM g T w)(hb:Below w.heap.size w w'):Lr g T w w' :=
 ⟨bX hb g,λk b=>⟨(h k b).2,λC T' fr d=>(h k b).2 C T' fr (by rw[<-hb.block k (h k b).1];exact d)⟩⟩
theorem fM.lr{g:Option Nat}{T:TypeId}{w w':World}(h:fM g T w)(d:Lr g T w w'):fM g T w':=λk b=>⟨Nat.lt_of_lt_of_le (h k b).1 d.1.size,(d.2 k b).2⟩
theorem Blk.noOther{w:World}{g:Nat}{T:TypeId}{cs:List Value}(h:Blk w g T cs):lw w g T:=λC T' fr b=>by unfold Blk at h;rw[h]at b;cases b;rfl
theorem lw.map{w:World}{k:Nat}{T:TypeId}{es:Array MapEntry}{c:Nat}(h:w.heap[k]?=some (.map es c)):lw w k T:=λC T' fr b=>by rw[h]at b;cases b
theorem Jb{w:World}{base:Nat}{e:TypeId}{size:Nat}{v:Value}{n:Nat}{j:List Value}(h:w.ownsRow base e size v n j):fM v.ownBlock e w:=by
 intro k b;refine⟨(h.lt k b).2,?_⟩;rcases h.2 with ⟨rfl,_⟩|⟨g,cap,i,rfl,_,hg,_⟩
 ·simp[Value.ownBlock]at b
 ·simp[Value.ownBlock]at b;subst b;intro C T' fr d;rw[hg]at d;cases d;rfl
theorem bL.lr{g:Option Nat}{T T':TypeId}{w w':World}{b off:Nat}{cs:List Value}(h:bL T' w b off cs)(i:Lr g T w w')(k:T'≠T):bL T' w' b off cs:=by
 obtain⟨C,fr,d,j⟩:=h;refine⟨C,fr,?_,j⟩;rw[i.1.block b (sO d) (λe=>?_)]
 ·exact d
 ·exact k ((i.2 b e.symm).1 C T' fr d)
theorem bL.lr'{g:Option Nat}{T T':TypeId}{w w':World}{b off:Nat}{cs:List Value}(h:bL T' w b off cs)(i:Lr g T w w')(hb:some b≠g):bL T' w' b off cs:=by obtain⟨C,fr,d,e⟩:=h;exact⟨C,fr,by rw[i.1.block b (sO d) hb];exact d,e⟩
theorem At.lr{g:Option Nat}{T T':TypeId}{w w':World}{d:Option Addr}{cs:List Value}(h:At T' w d cs)(j:Lr g T w w')(i:T'≠T):At T' w' d cs:=λhp =>
 let ⟨b,off,e,hc⟩:=h hp;⟨b,off,e,hc.lr j i⟩
theorem Blk.lr{g:Option Nat}{T T':TypeId}{w w':World}{h:Nat}{cs:List Value}(d:Blk w h T' cs)(e:Lr g T w w')(b:some h≠g):Blk w' h T' cs:=by have:=e.1.block h d.lt b;unfold Blk at *;rw[this];exact d
theorem cZ.lr{g:Option Nat}{T:TypeId}{w w':World}{v:Value}{l:List Int}(h:cZ w v l)(d:Lr g T w w')(b:uT≠T):cZ w' v l :=
 let ⟨ao,cap,e,h1,h2,h3⟩:=h;⟨ao,cap,e,h1,h2,h3.lr d b⟩
theorem bf.lr{g:Option Nat}{T:TypeId}{w w':World}{neg:Bool}{m:Value}{z:Int}(h:bf w neg m z)(d:Lr g T w w')(b:uT≠T):bf w' neg m z :=
 let ⟨l,h1,h2⟩:=h;⟨l,h1.lr d b,h2⟩
theorem Lr.belowAt{g:Option Nat}{T:TypeId}{w w':World}(h:Lr g T w w'){B:Nat}(b:B<=w.heap.size)(hg:∀k,g=some k->B<=k):Below B w w':=(Below.refl _ _).grown h.1 b hg
theorem Lr.below{T:TypeId}{w w':World}(h:Lr none T w w'):Below w.heap.size w w':=h.belowAt (nL _) (λ_ h=>by cases h)
def mg (ops:List Oper) (n j:Nat):Nat->List Edge->Bool
 | 0,_=>false
 | f+1,es=>es.any λe=>Region.binds .any e&&(e.on==j || (match ops[e.on]? with|some o=>mg ops n j f o.after.toList|none=>false))
def oJ (ops:List Oper) (k z:Nat):Bool :=
 decide (k<=ops.length) &&
 (List.range k).all (λi=>match ops[i]? with
  | some o=>o.dst.isSome&&o.after.toList.all (λe=>decide (e.on<i) || !Region.binds .any e)&&(List.range i).all (λj=>bv ops j != o.dst)
  | none=>false) &&
 (List.range (ops.length-k)).all (λd=>match ops[k+d]? with
  | some o=>o.after.toList.all (λe=>decide (e.on<k+d) || !Region.binds .any e)&&(List.range (k+d)).all (λj=>j==z || mg ops (k+d) j (ops.length+1) (o.after.toList))
  | none=>false)
abbrev Lj (ops:List Oper) (k:Nat):Bool:=oJ ops k ops.length
section
variable {P:Program} {ops:List Oper} {φ:Nat->Value->World->Prop} {k z:Nat} {Q:Exit->Act->World->Prop} {a:Act} {w0:World}
theorem iw(h:oJ ops k z=true){i:Nat}(n:i<k) :
  ∃o,ops[i]?=some o/\(∃d,o.dst=some d)/\(∀e∈o.after,Region.binds .any e=true->e.on<i)/\∀j,j<i->bv ops j≠o.dst:=by
 simp only[oJ,Bool.and_eq_true,List.all_eq_true,List.mem_range]at h;have:=h.1.2 i n;split at this
 ·rename_i o q;simp only[Bool.and_eq_true,List.all_eq_true,List.mem_range,bne_iff_ne]at this;obtain⟨⟨b,l⟩,m⟩:=this;refine⟨o,q,Option.isSome_iff_exists.1 b,λe he hb=>?_,λj p=>m j p⟩;have:=l e (by simpa using he);simp[hb]at this;exact this
 ·cases this
theorem rJ(h:oJ ops k z=true):k<=ops.length:=by simp only[oJ,Bool.and_eq_true]at h;simpa using h.1.1
theorem gP{listed:Array Bool}(b:∀i o,listed.getD i false=true->ops[i]?=some o->∀e∈o.after,Region.binds .any e=true->listed.getD e.on false=true){n j:Nat} :
  ∀(f:Nat)(es:List Edge),(∀e∈es,Region.binds .any e=true->listed.getD e.on false=true)->mg ops n j f es=true->listed.getD j false=true
 | 0,_,_,h=>by simp[mg]at h
 | f+1,es,hes,h=>by
  simp only[mg,List.any_eq_true,Bool.and_eq_true,Bool.or_eq_true,beq_iff_eq]at h;obtain⟨e,he,hb,h⟩:=h;have l:=hes e he hb;rcases h with h|h
  ·rw[<-h];exact l
  ·split at h
   ·rename_i o p;exact gP b f _ (λm k d=>b e.on o l p m (by simpa using k) d) h
   ·cases h
theorem oo(h:oJ ops k z=true){i:Nat}(m:k<=i)(d:i<ops.length) :
  ∃o,ops[i]?=some o/\(∀e∈o.after,Region.binds .any e=true->e.on<i)/\∀j,j<i->j≠z->mg ops i j (ops.length+1) o.after.toList=true:=by
 simp only[oJ,Bool.and_eq_true,List.all_eq_true,List.mem_range]at h;have:=h.2 (i-k) oM;rw[(oM:k+(i-k)=i)]at this;split at this
 ·rename_i o l;simp only[Bool.and_eq_true,List.all_eq_true,List.mem_range]at this;refine⟨o,l,λe he hb=>?_,λj b hz=>by have:=this.2 j b;simp[hz]at this;exact this⟩;have:=this.1 e (by simpa using he);simp[hb]at this;exact this
 ·cases this
theorem zq(M:oJ ops k z=true)(a0:z<k\/z=ops.length):∀(fuel i:Nat)(listed:Array Bool)(A:Act)(w:World),k<=i->i<=ops.length->listed.size=ops.length ->
  (∀j,j<i->listed.getD j false=true)->(∀j,i<=j->listed.getD j false=false)->ops.length-i<=fuel->wpList P ops.toArray Q (ops.drop i) A w ->
  wpAny P .any ops.toArray Q fuel listed A w:=by
 intro fuel
 induction fuel with
 | zero =>
  intro i listed A w G hi B l d hf h;have:i=ops.length:=oM;subst this;rw[List.drop_of_length_le (nL _)]at h;refine⟨?_,h⟩;rw[List.eq_nil_iff_forall_not_mem];intro j F;obtain⟨h0,o,y,_⟩:=mem_ready.1 F
  have s:j<ops.length:=by rw[gm]at y;exact(gS.1 y).1
  rw[fE oM,l j s]at h0;cases h0
 | succ fuel ih =>
  intro i listed A w G hi B l d hf h;by_cases D:i=ops.length
  ·subst D;rw[List.drop_of_length_le (nL _)]at h;refine⟨λ_=>h,λj F=>?_⟩;obtain⟨h0,o,y,_⟩:=mem_ready.1 F
   have s:j<ops.length:=by rw[gm]at y;exact(gS.1 y).1
   rw[fE oM,l j s]at h0;cases h0
  ·have s:i<ops.length:=oM;obtain⟨o,y,hedge,L⟩:=oo M G s
   have p:i∈Region.ready .any ops.toArray listed:=by refine mem_ready.2 ⟨by rw[fE oM];exact d i (nL _),o,by rw[gm];exact y,λe he hb=>l _ (hedge e he hb)⟩
   refine⟨λhn=>(by rw[hn]at p;cases p),λj F=>?_⟩;obtain⟨h0,oj,q,C⟩:=mem_ready.1 F;rw[gm]at q;have n:j<ops.length:=(gS.1 q).1;rw[fE oM]at h0
   have O:i<=j:=by
    rcases Nat.lt_or_ge j i with h'|h'
    ·rw[l j h']at h0;cases h0
    ·exact h'
   have R:j=i:=by
    rcases Nat.eq_or_lt_of_le O with h'|h'
    ·exact h'.symm
    ·exfalso;obtain⟨a1,u,K,hreach'⟩:=oo M (oM:k<=j) n
     have N:∀x X,listed.getD x false=true->ops[x]?=some X->∀e∈X.after,Region.binds .any e=true->listed.getD e.on false=true:=by
      intro x X H J e he hb
      have Z:x < i:=by
       rcases Nat.lt_or_ge x i with h''|h''
       ·exact h''
       ·rw[d x h'']at H;cases H
      apply l;by_cases S:x < k
      ·obtain⟨Y,b,_,r,_⟩:=iw M S;rw[J]at b;cases b;have:=r e he hb;omega
      ·obtain⟨Y,b,r,_⟩:=oo M (oM:k<=x) oM;rw[J]at b;cases b;have:=r e he hb;omega
     rw[q]at u;cases u;have:=gP N _ _ (λe he hb=>C e (by simpa using he) hb) (hreach' i h' oM);rw[d i (nL _)]at this;cases this
   subst R
   have hd:ops.drop j=oj::ops.drop (j+1):=by
    rw[List.drop_eq_getElem_cons n]
    congr 1
    rw[gE n]at q;exact Option.some.inj q
   rw[hd]at h
   have E:∀A w,wpList P ops.toArray Q (ops.drop (j+1)) A w->wpAny P .any ops.toArray Q fuel (listed.setIfInBounds j true) A w:=by
    intro A w h;refine ih (j+1) _ A w oM oM (by simpa using B) ?_ ?_ oM h
    ·intro m hm;by_cases I:m=j
     ·subst I;simp[Array.getD_eq_getD_getElem?,B,n]
     ·rw[getD_set_ne _ (Ne.symm I)];exact l m oM
    ·intro m hm;rw[getD_set_ne _ oM];exact d m oM
   unfold wpOp;rw[gm,q];simp only;unfold wpList at h;split
   ·rename_i W;rw[if_pos W]at h;exact h.imp (Oper.wp_mono E) id
   ·rename_i W;rw[if_neg W]at h;exact E _ _ h
end
def Jc (ops:List Oper) (o:Oper) (A:Act) (X Y:Prop):Prop:=(Region.wanted o (yielded ops.toArray A.tmps)=true->X)/\(¬Region.wanted o (yielded ops.toArray A.tmps)=true->Y)
theorem ae{ops:List Oper}{o:Oper}{A:Act}{X Y:Prop}(hg:o.guard=none)(h:X):Jc ops o A X Y:=⟨λ_=>h,λb=>absurd (by simp[Region.wanted,hg]) b⟩
theorem Ct{ops:List Oper}{o:Oper}{A:Act}{j d:Nat}{b x:Bool}(hg:o.guard=some (j,b))(hd:bv ops j=some d)(hv:A.eval (.tmp d)=.bool x):Region.wanted o (yielded ops.toArray A.tmps)=(x==b):=by
 have e:A.tmps.getD d undef=.bool x:=hv
 have:A.tmps[d]?=some (.bool x):=by
  rw[Array.getD_eq_getD_getElem?]at e
  cases hq:A.tmps[d]? with
  | none=>rw[hq]at e;simp[undef]at e
  | some y=>rw[hq]at e;simpa using e
 unfold bv at hd;simp only[Region.wanted,hg,yielded,List.getElem?_toArray,hd,Option.bind_some,this];cases x<;>cases b<;>rfl
theorem aI{ops:List Oper}{o:Oper}{A:Act}{X Y:Prop}{j d:Nat}{b:Bool}(hg:o.guard=some (j,b))(hd:bv ops j=some d)(hv:A.eval (.tmp d)=.bool b)(h:X):Jc ops o A X Y :=
 ⟨λ_=>h,λe=>absurd (by rw[Ct hg hd hv];simp) e⟩
theorem Uh{ops:List Oper}{o:Oper}{A:Act}{X Y:Prop}{j d:Nat}{b x:Bool}(hg:o.guard=some (j,b))(hd:bv ops j=some d)(hv:A.eval (.tmp d)=.bool x)(i:(x==b)=false)(h:Y):Jc ops o A X Y :=
 ⟨(λe=>by rw[Ct hg hd hv,i]at e;cases e),λ_=>h⟩
def VE (fa:Nat->Tmp->Bool) (L:World->World->Prop) (pu fr:Nat->Bool) (P:Program) (ops:List Oper) (φ:Nat->Value->World->Prop) (k:Nat) (Q:Exit->Act->World->Prop) (a:Act) (w0:World) (i:Nat) (o:Oper):Prop :=
 ∀A w,(∀t,fa i t=true->A.eval (.tmp t)=a.eval (.tmp t))->L w0 w->(pu i=false->Below w0.heap.size w0 w)->pW ops φ A w o.after.toList ->
  Jc ops o A (o.wp P A w (λA' w'=>∃v,A'=A.put o.dst v/\(if pu i=true then w'=w else if fr i=true then L w w' else Below w.heap.size w w')/\φ i v w') Q) (φ i undef w)
def qm (fa:Nat->Tmp->Bool) (L:World->World->Prop) (pu fr:Nat->Bool) (P:Program) (ops:List Oper) (φ:Nat->Value->World->Prop) (k:Nat) (Q:Exit->Act->World->Prop) (a:Act) (w0:World):Nat->List Oper->Prop
 | _,[]=>True
 | i,o::r=>VE fa L pu fr P ops φ k Q a w0 i o/\qm fa L pu fr P ops φ k Q a w0 (i+1) r
theorem qm.get{b:Nat->Tmp->Bool}{L:World->World->Prop}{pu fr:Nat->Bool}{P:Program}{ops:List Oper}{φ:Nat->Value->World->Prop}{k:Nat}{Q:Exit->Act->World->Prop}{a:Act}{w0:World} :
  ∀{l:List Oper}{i j:Nat}{o:Oper},qm b L pu fr P ops φ k Q a w0 i l->l[j]?=some o->VE b L pu fr P ops φ k Q a w0 (i+j) o
 | [],_,_,_,_,h=>by simp at h
 | x::r,i,0,o,h,ho=>by simp at ho;subst ho;exact h.1
 | x::r,i,j+1,o,h,ho=>by have:=h.2.get (j:=j) (by simpa using ho);rw[(oM:i+(j+1)=i+1+j)];exact this
def wT (ops:List Oper) (k i:Nat) (t:Tmp):Bool:=(List.range k).all λj=>bv ops j != some t || (match ops[j]? with|some o=>mg ops j i (ops.length+1) o.after.toList|none=>false)
def Q8 (ops:List Oper) (i:Nat) (t:Tmp):Bool:=(List.range i).all λj=>bv ops j != some t
theorem Ll{ops:List Oper}{k i:Nat}{t:Tmp}(h:wT ops k i t=true){j:Nat}(b:j<k)(hd:bv ops j=some t):∃o,ops[j]?=some o/\mg ops j i (ops.length+1) o.after.toList=true:=by
 have:=List.all_eq_true.1 h j (List.mem_range.2 b);rw[hd]at this;simp only[bne_self_eq_false,Bool.false_or]at this;split at this
 ·rename_i o d;exact⟨o,d,this⟩
 ·cases this
theorem Pe{ops:List Oper}{i:Nat}{t:Tmp}(h:Q8 ops i t=true){j:Nat}(b:j<i):bv ops j≠some t:=by have:=List.all_eq_true.1 h j (List.mem_range.2 b);simpa using this
def wU (ops:List Oper) (pu fr:Nat->Bool) (k:Nat):Bool :=
 (List.range k).all λj=>!fr j || (List.range k).all λi=>pu i || i==j || (match ops[j]? with|some o=>mg ops j i (ops.length+1) o.after.toList|none=>false)
theorem Cu{ops:List Oper}{pu fr:Nat->Bool}{k j i:Nat}(h:wU ops pu fr k=true)(m:j<k)(l:i<k)(hf:fr j=true)(hp:pu i=false)(e:i≠j) :
  ∃o,ops[j]?=some o/\mg ops j i (ops.length+1) o.after.toList=true:=by
 have d:=List.all_eq_true.1 h j (List.mem_range.2 m);rw[hf]at d;simp only[Bool.not_true,Bool.false_or,List.all_eq_true,List.mem_range]at d;have b:=d i l;rw[hp,Bool.false_or,Bool.or_eq_true]at b;rcases b with b|b
 ·exact absurd (by simpa using b) e
 ·split at b
  ·rename_i o n;exact⟨o,n,b⟩
  ·cases b
def Q9 (w:World) (v:Value):Prop:=∃b,v=.pointer (some ⟨b,0,none⟩)/\w.heap.size<=b
def Ra (w:World) (v:Value):Prop:=∃b,v=.pointer (some ⟨b,0,none⟩)/\b<w.heap.size
theorem Nv{w:World}{v u:Value}(h:Q9 w v)(d:Ra w u):v≠u:=by obtain⟨b,rfl,hb⟩:=h;obtain⟨c,rfl,hc⟩:=d;intro e;cases e;omega
section
variable {L:World->World->Prop} {pu fr:Nat->Bool} {P:Program} {ops:List Oper} {φ:Nat->Value->World->Prop} {k:Nat} {Q:Exit->Act->World->Prop} {a:Act} {w0:World}
def Fh (L:World->World->Prop) (pu fr:Nat->Bool) (P:Program) (ops:List Oper) (φ:Nat->Value->World->Prop) (k:Nat) (Q:Exit->Act->World->Prop) (w0:World) (D:Nat->Bool):Prop :=
 ∀i o,i<k->D i=true->ops[i]?=some o->o.guard=none/\(∀v w,L w0 w->φ i v w->Ra w v) /\
  ∀A w,L w0 w->o.wp P A w (λA' w'=>∃v,A'=A.put o.dst v/\(if pu i=true then w'=w else if fr i=true then L w w' else Below w.heap.size w w')/\φ i v w'/\Q9 w v) Q
theorem Lm{z:Nat}{D:Nat->Bool}(hD:Fh L pu fr P ops φ k Q w0 D)(bc:∀{w w1 w2},L w w1->L w1 w2->L w w2)(aw:∀{w w1},L w w1->L w1 w1)(b2:∀{w w'},L w0 w->Below w.heap.size w w'->L w w')(ao:wU ops pu fr k=true)(X:oJ ops k z=true)(b7:∀i,i<k->∀d,bv ops i=some d->d<a.tmps.size)(ac:∀i,i<k->fr i=false->∀v w w',L w w'->φ i v w->φ i v w')(a1:qm (wT ops k) L pu fr P ops φ k Q a w0 0 (ops.take k))
  (a3:∀(fuel:Nat)(listed:Array Bool)(vs:Nat->Value)(w:World),listed.size=ops.length->(∀i o,listed.getD i false=true->ops[i]?=some o->∀e∈o.after,Region.binds .any e=true->listed.getD e.on false=true)->(∀j,j<k->j≠z->listed.getD j false=true)->(∀j,k<=j->listed.getD j false=false)->L w0 w->(∀i,i<k->listed.getD i false=true->φ i (vs i) w) ->
   (∀i j,i<k->j<k->i≠j->D i=true->D j=true->listed.getD i false=true->listed.getD j false=true->vs i≠vs j)->left ops.length listed<=fuel->wpAny P .any ops.toArray Q fuel listed (bg ops vs (λj=>listed.getD j false) k a) w) :
  ∀(fuel:Nat)(listed:Array Bool)(vs:Nat->Value)(w:World),listed.size=ops.length ->
   (∀i o,listed.getD i false=true->ops[i]?=some o->∀e∈o.after,Region.binds .any e=true->listed.getD e.on false=true) ->
   (∀j,k<=j->listed.getD j false=false)->L w0 w->((∀j,j<k->fr j=true->listed.getD j false=false)->Below w0.heap.size w0 w)->(∀i,i<k->listed.getD i false=true->φ i (vs i) w)->(∀i j,i<k->j<k->i≠j->D i=true->D j=true->listed.getD i false=true->listed.getD j false=true->vs i≠vs j)->left ops.length listed<=fuel ->
   wpAny P .any ops.toArray Q fuel listed (bg ops vs (λj=>listed.getD j false) k a) w:=by
 intro fuel
 induction fuel with
 | zero =>
  intro listed vs w I r F hb hS J Z hf;have hk:=rJ X
  have bi:k=ops.length:=by
   rcases Nat.eq_or_lt_of_le hk with h|h
   ·exact h
   ·have:=vP (by omega:left ops.length listed=0) (i:=k) h;rw[fE oM,F k (nL _)]at this;cases this
  have C:∀j,j<k->listed.getD j false=true:=λj l=>by have:=vP (by omega:left ops.length listed=0) (i:=j) oM;rwa[fE oM]at this
  exact a3 0 listed vs w I r (λj l _=>C j l) F hb J Z hf
 | succ fuel ih =>
  intro listed vs w I r F hb hS J Z hf;have hk:=rJ X;by_cases C:∀j,j<k->j≠z->listed.getD j false=true
  ·exact a3 (fuel+1) listed vs w I r C F hb J Z hf
  ·have hex:∃j,j<k/\listed.getD j false=false:=by
    apply Classical.byContradiction;intro O;apply C;intro j l _;cases hq:listed.getD j false
    ·exact absurd ⟨j,l,hq⟩ O
    ·rfl
   -- the least that has not come up is ready
   have a0:∃j,j∈Region.ready .any ops.toArray listed:=by
    have bd:∀n,∀j,j<=n->j<k->listed.getD j false=false->∃j,j∈Region.ready .any ops.toArray listed:=by
     intro n
     induction n with
     | zero =>
      intro j l aa ab;obtain⟨o,K,_,R,_⟩:=iw X aa;refine⟨j,mem_ready.2 ⟨by rw[fE oM];exact ab,o,by rw[gm];exact K,λe he b=>?_⟩⟩;have:=R e he b;omega
     | succ n bh =>
      intro j l aa ab;obtain⟨o,K,_,R,_⟩:=iw X aa;by_cases hp:∀e∈o.after,Region.binds .any e=true->listed.getD e.on false=true
      ·exact⟨j,mem_ready.2 ⟨by rw[fE oM];exact ab,o,by rw[gm];exact K,hp⟩⟩
      ·have:∃e,e∈o.after/\Region.binds .any e=true/\listed.getD e.on false=false:=by
        apply Classical.byContradiction;intro O;apply hp;intro e he b;cases hq:listed.getD e.on false
        ·exact absurd ⟨e,he,b,hq⟩ O
        ·rfl
       obtain⟨e,he,b,hq⟩:=this;have:=R e he b;exact bh e.on oM oM hq
    obtain⟨j,l,G⟩:=hex;exact bd j j (nL _) l G
   refine⟨λhn=>(by obtain⟨j,l⟩:=a0;rw[hn]at l;cases l),λi hi=>?_⟩;obtain⟨h0,o,K,hpre⟩:=mem_ready.1 hi;rw[gm]at K;have S:i<ops.length:=(gS.1 K).1;rw[fE oM]at h0
   have E:i<k:=by
    rcases Nat.lt_or_ge i k with h|h
    ·exact h
    ·exfalso;obtain⟨o',B,_,hreach⟩:=oo X h S;rw[K]at B;cases B;apply C;intro j l b8;exact gP r _ _ (λe he b=>hpre e (by simpa using he) b) (hreach j oM b8)
   obtain⟨o',B,⟨d,hd⟩,R,a9⟩:=iw X E;rw[K]at B;cases B;have ax:=a1.get (j:=i) (o:=o) (by rw[List.getElem?_take,if_pos E];exact K);rw[Nat.zero_add]at ax;have a8:bv ops i=o.dst:=by simp[bv,K]
   have b4:∀j,j<k->j≠i->bv ops i≠none->bv ops j≠bv ops i:=by
    intro j l q _;rcases Nat.lt_or_ge j i with h|h
    ·rw[a8];exact a9 j h
    ·obtain⟨o2,ad,_,_,u⟩:=iw X l;have:=u i oM;have e2:bv ops j=o2.dst:=by simp[bv,ad]
     rw[e2];exact λh=>this h.symm
   have b3:pu i=false->Below w0.heap.size w0 w:=λhp=>hS λj l N=>by
    cases G:listed.getD j false with
    | false=>rfl
    | true =>
     exfalso;by_cases q:i=j
     ·subst q;rw[h0]at G;cases G
     ·obtain⟨oj,H,hr⟩:=Cu ao l E N hp q;have:=gP r _ _ (λe he b=>r j oj G H e (by simpa using he) b) hr;rw[h0]at this;cases this
   have a4:=ax (bg ops vs (λj=>listed.getD j false) k a) w (λt ht=>oh k (λj l G hd=>by
    obtain⟨oj,H,hr⟩:=Ll ht l hd;have:=gP r _ _ (λe he b=>r j oj G H e (by simpa using he) b) hr
    rw[h0]at this;cases this)) hb b3 (by
    have:∀es:List Edge,(∀e∈es,Region.binds .any e=true->e.on<i/\listed.getD e.on false=true)->pW ops φ (bg ops vs (λj=>listed.getD j false) k a) w es:=by
     intro es
     induction es with
     | nil=>intro _;trivial
     | cons e es be =>
      intro h;refine⟨λb=>?_,be (λe' b5=>h e' (by simp[b5]))⟩;obtain⟨bj,G⟩:=h e sM b;obtain⟨oe,ba,⟨de,an⟩,_,Y⟩:=iw X (oM:e.on<k);have e1:bv ops e.on=some de:=by simp[bv,ba,an]
      rw[e1];simp only[Option.getD_some];rw[sS e1 (λj l q=>?_) G (b7 e.on oM de e1) k oM (nL _)]
      ·exact J e.on oM G
      ·intro hc;rcases Nat.lt_or_ge j e.on with hje|hje
       ·exact Y j hje (by rw[hc,an])
       ·obtain⟨o2,ad,_,_,u⟩:=iw X l;exact u e.on oM (by rw[e1,<-hc];simp[bv,ad])
    exact this _ (λe he b=>⟨R e (by simpa using he) b,hpre e (by simpa using he) b⟩))
   suffices W:∀(v:Value)(w':World),(if pu i=true then w'=w else if fr i=true then L w w' else Below w.heap.size w w')->φ i v w'->(D i=true->Q9 w v) ->
     wpAny P .any ops.toArray Q fuel (listed.setIfInBounds i true) ((bg ops vs (λj=>listed.getD j false) k a).put o.dst v) w' by
    unfold wpOp;rw[gm,K];simp only;split
    ·rename_i hw;left;by_cases al:D i=true
     ·refine Oper.wp_mono ?_ ((hD i o E al K).2.2 _ w hb);rintro A' w' ⟨v,rfl,M,s,hn⟩;exact W v w' M s λ_=>hn
     ·refine Oper.wp_mono ?_ (a4.1 hw);rintro A' w' ⟨v,rfl,M,s⟩;exact W v w' M s λh=>absurd h al
    ·rename_i hw;have h2:=a4.2 hw;refine W undef w ?_ h2 λh=>absurd (by simp[Region.wanted,(hD i o E h K).1]) hw;split
     ·rfl
     ·split
      ·exact aw hb
      ·exact Below.refl _ _
   intro v w' m s hnew
   have M:L w w':=by
    split at m
    ·rw[m];exact aw hb
    ·split at m
     ·exact m
     ·exact b2 hb m
   have ar:listed.getD i false=false:=h0;have av:=sQ (a:=a) (vs:=vs) (v:=v) (p:=λj=>listed.getD j false) ar b4 ⟨d,by rw[a8,hd]⟩ k E (nL _);rw[<-a8,<-av]
   have bb:bg ops (λj=>if j=i then v else vs j) (λj=>listed.getD j false || j==i) k a=bg ops (λj=>if j=i then v else vs j) (λj=>(listed.setIfInBounds i true).getD j false) k a:=by
    refine gI k (λj l=>?_) (λj _ _=>rfl);by_cases q:j=i
    ·subst q;simp[Array.getD_eq_getD_getElem?,I,S]
    ·rw[getD_set_ne _ (Ne.symm q)];have:(j==i)=false:=by simpa using q
     rw[this,Bool.or_false]
   rw[bb]
   have hset:∀j,(listed.setIfInBounds i true).getD j false=true->j=i\/listed.getD j false=true:=λj l=>by
    by_cases q:j=i
    ·exact .inl q
    ·rw[getD_set_ne _ (Ne.symm q)]at l;exact .inr l
   refine ih _ _ _ (by simpa using I) ?_ ?_ (bc hb M) ?_ ?_ ?_ ?_
   ·intro i' o' b9 B e he b;rcases hset i' b9 with h|h
    ·subst h;rw[K]at B;cases B;exact getD_set_true (hpre e he b)
    ·exact getD_set_true (r i' o' h B e he b)
   ·intro j l;rw[getD_set_ne _ oM];exact F j l
   ·intro O
    have au:∀j,j<k->fr j=true->listed.getD j false=false:=λj l N=>by
     have:=O j l N
     cases G:listed.getD j false with
     | false=>rfl
     | true=>rw[getD_set_true G]at this;cases this
    have b6:fr i=false:=by
     cases hf':fr i with
     | false=>rfl
     | true =>
      have:=O i E hf';simp[Array.getD_eq_getD_getElem?,I,S]at this
    have a7:=hS au;by_cases hp:pu i=true
    ·rw[if_pos hp]at m;rw[m];exact a7
    ·rw[if_neg hp,if_neg (by rw[b6];simp)]at m;exact a7.trans (m.mono a7.size)
   ·intro j l G;rcases hset j G with h|h
    ·subst h;simpa using s
    ·by_cases q:j=i
     ·subst q;simpa using s
     ·simp only[if_neg q];by_cases hp:pu i=true
      ·rw[if_pos hp]at m;rw[m];exact J j l h
      ·cases N:fr j with
       | false=>exact ac j l N _ _ _ M (J j l h)
       | true =>
        exfalso;have:=Cu ao l E N (by simpa using hp) (Ne.symm q);obtain⟨oj,H,hr⟩:=this;have:=gP r _ _ (λe he b=>r j oj h H e (by simpa using he) b) hr;rw[ar]at this;cases this
   ·intro x y hx hy ay a5 a6 ap aq
    have hold:∀j,j<k->D j=true->listed.getD j false=true->Ra w (vs j):=λj l b0 G=>by obtain⟨oj,H,-⟩:=iw X l;exact(hD j oj l b0 H).2.1 _ _ hb (J j l G)
    by_cases a2:x=i
    ·subst a2;have aE:¬y=x:=λh=>ay h.symm;rw[if_pos rfl,if_neg aE];exact Nv (hnew a5) (hold y hy a6 ((hset y aq).resolve_left aE))
    ·rw[if_neg a2];by_cases ag:y=i
     ·subst ag;rw[if_pos rfl];exact(Nv (hnew a6) (hold x hx a5 ((hset x ap).resolve_left a2))).symm
     ·rw[if_neg ag];exact Z x y hx hy ay a5 a6 ((hset x ap).resolve_left a2) ((hset y aq).resolve_left ag)
   ·have:=Cr I (i:=i) (by rw[fE oM];exact h0);omega
theorem Lp{listed:Array Bool}(p:k<=ops.length)(o:listed.size=ops.length)(b:∀j,k<=j->listed.getD j false=false):ops.length-k<=left ops.length listed:=by
 unfold left
 have d:((List.range' k (ops.length-k))).Sublist ((List.range ops.length).filter λi=>!listed.getD i true):=by
  have e:(List.range' k (ops.length-k)).filter (λi=>!listed.getD i true)=List.range' k (ops.length-k):=by rw[List.filter_eq_self];intro j l;simp only[List.mem_range'_1]at l;rw[fE oM,b j oM];rfl
  rw[<-e];apply List.Sublist.filter;rw[List.range_eq_range']
  have h:List.range' 0 ops.length=List.range' 0 k++List.range' k (ops.length-k):=by have:=List.range'_append (s:=0) (m:=k) (n:=ops.length-k) (step:=1);simp only[Nat.one_mul,Nat.zero_add]at this;rw[this];congr 1;omega
  rw[h];exact List.sublist_append_right _ _
 simpa using d.length_le
theorem rM{id z:Nat}{D:Nat->Bool}(hD:Fh L pu fr P ops φ k Q w0 D)(hm:P.follows .mixedOrders=true)(x:∀{w w1 w2},L w w1->L w1 w2->L w w2)(u:∀{w w1},L w w1->L w1 w1)(q:∀{w w'},L w0 w->Below w.heap.size w w'->L w w')(r:wU ops pu fr k=true)(B:oJ ops k z=true)(h00:L w0 { w0 with drawn:=w0.drawn+1 })
  (s:((List.range k).all λi=>match bv ops i with|some d=>decide (d<a.tmps.size)|none=>true)=true)
  (l:∀i,i<k->fr i=false->∀v w w',L w w'->φ i v w->φ i v w') (b:qm (wT ops k) L pu fr P ops φ k Q a w0 0 (ops.take k))
  (m:∀(fuel:Nat)(listed:Array Bool)(vs:Nat->Value)(w:World),listed.size=ops.length->(∀i o,listed.getD i false=true->ops[i]?=some o->∀e∈o.after,Region.binds .any e=true->listed.getD e.on false=true)->(∀j,j<k->j≠z->listed.getD j false=true)->(∀j,k<=j->listed.getD j false=false)->L w0 w->(∀i,i<k->listed.getD i false=true->φ i (vs i) w) ->
   (∀i j,i<k->j<k->i≠j->D i=true->D j=true->listed.getD i false=true->listed.getD j false=true->vs i≠vs j)->left ops.length listed<=fuel->wpAny P .any ops.toArray Q fuel listed (bg ops vs (λj=>listed.getD j false) k a) w) :
  (Code.region id ops.toArray true).wp P Q a w0:=by
 refine wp_region_any hm ?_
 have p:∀i,i<k->∀d,bv ops i=some d->d<a.tmps.size:=λi y d hd=>by have:=List.all_eq_true.1 s i (List.mem_range.2 y);rw[hd]at this;simpa using this
 have h0:∀j,(Array.replicate ops.length false).getD j false=false:=λj=>by simp[Array.getD_eq_getD_getElem?,Array.getElem?_replicate];split<;>rfl
 have:=Lm (L:=L) (P:=P) (Q:=Q) (w0:=w0) hD x u q r B p l b m ops.length (Array.replicate ops.length false) (λ_=>undef) { w0 with drawn:=w0.drawn+1 } sM
  (λi o h=>by rw[h0]at h;cases h) (λj _=>h0 j) h00 (λ_=>⟨rfl,rfl,rfl,nL _,λ_ _=>rfl⟩) (λi _ h=>by rw[h0]at h;cases h) (λi _ _ _ _ _ _ h=>by rw[h0]at h;cases h)
  (by unfold left;exact Nat.le_trans (List.length_filter_le _ _) sM)
 have e:bg ops (λ_=>undef) (λj=>(Array.replicate ops.length false).getD j false) k a=a:=by
  have:∀n,bg ops (λ_=>undef) (λj=>(Array.replicate ops.length false).getD j false) n a=a:=by
   intro n
   induction n with
   | zero=>rfl
   | succ n C=>unfold bg;rw[h0,C];rfl
  exact this k
 rw[e]at this;simpa using this
theorem zt{id:Nat}{D:Nat->Bool}(I:Fh L pu fr P ops φ k Q w0 D)(hm:P.follows .mixedOrders=true)(E:∀{w w1 w2},L w w1->L w1 w2->L w w2)(B:∀{w w1},L w w1->L w1 w1)(s:∀{w w'},L w0 w->Below w.heap.size w w'->L w w')(x:wU ops pu fr k=true)(C:Lj ops k=true)(r:L w0 { w0 with drawn:=w0.drawn+1 })
  (z:((List.range k).all λi=>match bv ops i with|some d=>decide (d<a.tmps.size)|none=>true)=true)
  (m:∀i,i<k->fr i=false->∀v w w',L w w'->φ i v w->φ i v w') (b:qm (wT ops k) L pu fr P ops φ k Q a w0 0 (ops.take k))
  (n:∀vs w',L w0 w'->wM φ vs w' k->(∀i j,i<k->j<k->i≠j->D i=true->D j=true->vs i≠vs j)->wpList P ops.toArray Q (ops.drop k) (bg ops vs (λ_=>true) k a) w') :
  (Code.region id ops.toArray true).wp P Q a w0:=by
 have G:=rJ C;refine rM I hm E B s x C r z m b λfuel listed vs w q _ l e hb F u hf=>?_;have hall:∀j,j<k->listed.getD j false=true:=λj o=>l j o oM;refine zq C (.inr rfl) _ k listed _ w (nL _) G q hall e (Nat.le_trans (Lp G q e) hf) ?_;have:=n vs w hb (uH k (λi p=>F i p (hall i p))) λi j p o y h H=>u i j p o y h H (hall i p) (hall j o);rwa[gI (vs':=vs) (p':=λj=>listed.getD j false) k (λj o=>(hall j o).symm) (λj _ _=>rfl)]at this
end
structure af (L:World->World->Prop) where
 eqv:Option Value
 frag:Bool
 pure':Bool
 p:Value->World->Prop
 mono:frag=false->∀v w w',L w w'->p v w->p v w'
 is:∀c,eqv=some c->∀v w,p v w->v=c
namespace af
variable {L:World->World->Prop}
def of (p:Value->World->Prop) (mono:∀v w w',L w w'->p v w->p v w'):af L:=⟨none,false,false,p,λ_=>mono,λ_ h=>by cases h⟩
def eq (c:Value):af L:=⟨some c,false,true,λv _=>v=c,λ_ _ _ _ _ h=>h,λc' h v w hv=>by cases h;exact hv⟩
def ret (c:Value):af L:=⟨some c,false,false,λv _=>v=c,λ_ _ _ _ _ h=>h,λc' h v w hv=>by cases h;exact hv⟩
def pu (p:Value->World->Prop) (mono:∀v w w',L w w'->p v w->p v w'):af L:=⟨none,false,true,p,λ_=>mono,λ_ h=>by cases h⟩
def fragile (p:Value->World->Prop):af L:=⟨none,true,false,p,(λh=>by cases h),(λ_ h=>by cases h)⟩
def any:af L:=of (λ_ _=>True) (λ_ _ _ _ h=>h)
def asPure (f:af L):af L:={ f with pure':=true }
end af
def qU {L:World->World->Prop} (fs:List (af L)) (i:Nat) (v:Value) (w:World):Prop:=(fs.getD i .any).p v w
def QA {L:World->World->Prop} (fs:List (af L)) (i:Nat):Bool:=(fs.getD i .any).pure'
def QB {L:World->World->Prop} (fs:List (af L)) (i:Nat):Bool:=(fs.getD i .any).frag
def aU {L:World->World->Prop} (P:Program) (ops:Array Oper) (Q:Exit->Act->World->Prop) (rest:List Oper) (w':World):List (af L)->List Tmp->Act->Prop
 | f::fs,d::ds,a=>match f.eqv with
  | some c=>aU P ops Q rest w' fs ds (a.put (some d) c)
  | none=>∀v,f.p v w'->aU P ops Q rest w' fs ds (a.put (some d) v)
 | _,_,a=>wpList P ops Q rest a w'
theorem zu{L:World->World->Prop}{P:Program}{ops:List Oper}{k:Array Oper}{Q:Exit->Act->World->Prop}{rest:List Oper}{w':World}{vs:Nat->Value}{a:Act} :
  ∀(l:List (af L))(b:List Tmp)(i:Nat),l.length=b.length->(∀j (f:af L),l[j]?=some f->f.p (vs (i+j)) w')->(∀j (d:Tmp),b[j]?=some d->bv ops (i+j)=some d) ->
   aU P k Q rest w' l b (bg ops vs (λ_=>true) i a)->wpList P k Q rest (bg ops vs (λ_=>true) (i+b.length) a) w'
 | [],[],i,_,_,_,h=>h
 | f::l,d::b,i,hl,hf,hd,h=>by
  have h0:=hf 0 f rfl
  have o:aU P k Q rest w' l b ((bg ops vs (λ_=>true) i a).put (some d) (vs i)):=by
   unfold aU at h;split at h
   ·rename_i c hc;have:=f.is c hc _ _ h0;rw[Nat.add_zero]at this;rw[this];exact h
   ·exact h _ h0
  have e:bg ops vs (λ_=>true) (i+1) a=(bg ops vs (λ_=>true) i a).put (some d) (vs i):=by simp only[bg,if_true,show bv ops i=some d from hd 0 d rfl]
  have:=zu l b (i+1) (by simpa using hl) (λj n m=>by rw[(oM:i+1+j=i+(j+1))];exact hf (j+1) n (by simpa using m))
   (λj d' m=>by rw[(oM:i+1+j=i+(j+1))];exact hd (j+1) d' (by simpa using m)) (by rw[e];exact o)
  rw[show i+(d::b).length=i+1+b.length by simp;omega];exact this
 | [],_::_,_,h,_,_,_=>by simp at h
 | _::_,[],_,h,_,_,_=>by simp at h
def af.pin {L:World->World->Prop} (f:af L) (c:Value):af L:=⟨none,f.frag,f.pure',λv w=>f.p v w/\v=c,λhf v w w' hl h=>⟨f.mono hf v w w' hl h.1,h.2⟩,λ_ h=>by cases h⟩
def uJ {L:World->World->Prop} (D:Nat->Bool) (vs:Nat->Value):Nat->List (af L)->List (af L)
 | _,[]=>[]
 | i,f::r=>(bif D i then f.pin (vs i)else f)::uJ D vs (i+1) r
theorem Jd{L:World->World->Prop}{D:Nat->Bool}{vs:Nat->Value}{w:World}:∀(k:List (af L))(i:Nat),(∀j (f:af L),k[j]?=some f->f.p (vs (i+j)) w)->∀j (f:af L),(uJ D vs i k)[j]?=some f->f.p (vs (i+j)) w
 | f::r,i,h,0,f',e=>by
  simp only[uJ,List.getElem?_cons_zero,sJ]at e;subst e;have h0:=h 0 f rfl
  cases hd:D i with
  | true=>exact⟨h0,rfl⟩
  | false=>exact h0
 | f::r,i,h,j+1,f',e=>by simp only[uJ,List.getElem?_cons_succ]at e;have:=Jd r (i+1) (λd b l=>by rw[(oM:i+1+d=i+(d+1))];exact h (d+1) b l) j f' e;rwa[(oM:i+1+j=i+(j+1))]at this
theorem xU{L:World->World->Prop}{D:Nat->Bool}{vs:Nat->Value}:∀(b:List (af L))(i:Nat),(uJ D vs i b).length=b.length
 | [],_=>rfl
 | _::r,i=>by simp only[uJ,List.length_cons,xU r (i+1)]
theorem G7{P:Program}{ops:List Oper}{Q:Exit->Act->World->Prop}{a:Act}{w0:World}{id:Nat}(hm:P.follows .mixedOrders=true)(g:Option Nat)(T:TypeId)(q:fM g T w0)(b:List (af (Lr g T)))(e:List Tmp)(D:Nat->Bool)
  (E:Fh (Lr g T) (QA b) (QB b) P ops (qU b) b.length Q w0 D)
  (C:Lj ops b.length=true) (x:wU ops (QA b) (QB b) b.length=true) (p:((ops.take b.length).map (·.dst))=e.map some) (y:e.all (λd=>decide (d<a.tmps.size))=true)
  (k:qm (wT ops b.length) (Lr g T) (QA b) (QB b) P ops (qU b) b.length Q a w0 0 (ops.take b.length))
  (htail:∀w' vs,Lr g T w0 w'->(∀i j,i<b.length->j<b.length->i≠j->D i=true->D j=true->vs i≠vs j)->aU P ops.toArray Q (ops.drop b.length) w' (uJ D vs 0 b) e a) :
  (Code.region id ops.toArray true).wp P Q a w0:=by
 have lv:=rJ C
 have m:e.length=b.length:=by have:=congrArg List.length p;simp only[List.length_map,List.length_take]at this;omega
 have l:∀i d,e[i]?=some d->bv ops i=some d:=λi d hd=>by
  have n:i<e.length:=(gS.1 hd).1;have:((ops.take b.length).map (·.dst))[i]?=(e.map some)[i]?:=by rw[p]
  rw[List.getElem?_map,List.getElem?_map,hd,List.getElem?_take,if_pos oM]at this;unfold bv
  cases ho:ops[i]? with
  | none=>rw[ho]at this;cases this
  | some o=>rw[ho]at this;simpa using this
 refine zt E hm (λh s=>h.trans s) (λh=>h.refl') (λh s=>(q.lr h).below s) x C ?_ ?_ ?_ k ?_
 ·exact q.below ⟨rfl,rfl,rfl,nL _,λ_ _=>rfl⟩
 ·rw[List.all_eq_true];intro i B;have F:=List.mem_range.1 B;have n:i<e.length:=oM;rw[l i e[i] (gE n)];exact List.all_eq_true.1 y _ (List.getElem_mem n)
 ·intro i B hf v w w' hb h;exact(b.getD i .any).mono hf v w w' hb h
 ·intro vs w' hb hf u
  have:=zu (vs:=vs) (a:=a) (w':=w') (uJ D vs 0 b) e 0 ((xU b 0).trans m.symm) (Jd b 0 λj f r=>by
   have z:j<b.length:=(gS.1 r).1;have:=vQ _ j hf z;unfold qU at this;rw[jD,r]at this
   simpa using this) (λj d r=>by rw[Nat.zero_add];exact l j d r) (htail w' vs hb u)
  rw[Nat.zero_add,m]at this;exact this
theorem Fj{L:World->World->Prop}{vs:Nat->Value}:∀(b:List (af L))(i:Nat),uJ (λ_=>false) vs i b=b
 | [],_=>rfl
 | _::r,i=>by simp only[uJ,cond_false,Fj r (i+1)]
theorem aC{P:Program}{ops:List Oper}{Q:Exit->Act->World->Prop}{a:Act}{w0:World}{id:Nat}(hm:P.follows .mixedOrders=true)(g:Option Nat)(T:TypeId)(n:fM g T w0)(b:List (af (Lr g T)))(j:List Tmp)
  (o:Lj ops b.length=true) (l:wU ops (QA b) (QB b) b.length=true) (k:((ops.take b.length).map (·.dst))=j.map some) (m:j.all (λd=>decide (d<a.tmps.size))=true)
  (e:qm (wT ops b.length) (Lr g T) (QA b) (QB b) P ops (qU b) b.length Q a w0 0 (ops.take b.length))
  (i:∀w',Lr g T w0 w'->aU P ops.toArray Q (ops.drop b.length) w' b j a) :
  (Code.region id ops.toArray true).wp P Q a w0 :=
 G7 hm g T n b j (λ_=>false) (λ_ _ _ h=>by cases h) o l k m e λw' vs hb _=>by rw[Fj];exact i w' hb
def zw (ops:List Oper) (k:Nat):Bool :=
 decide (k<=ops.length) &&
 (List.range k).all (λi=>match ops[i]? with
  | some o=>o.dst.isSome&&o.after.toList.all (λe=>decide (e.on<i) || !Region.binds .any e)&&(List.range i).all (λj=>bv ops j != o.dst)
  | none=>false)
theorem uK{ops:List Oper}{k:Nat}(h:zw ops k=true){i:Nat}(n:i<k) :
  ∃o,ops[i]?=some o/\(∃d,o.dst=some d)/\(∀e∈o.after,Region.binds .any e=true->e.on<i)/\∀j,j<i->bv ops j≠o.dst:=by
 simp only[zw,Bool.and_eq_true,List.all_eq_true,List.mem_range]at h;have:=h.2 i n;split at this
 ·rename_i o q;simp only[Bool.and_eq_true,List.all_eq_true,List.mem_range,bne_iff_ne]at this;obtain⟨⟨b,l⟩,m⟩:=this;refine⟨o,q,Option.isSome_iff_exists.1 b,λe he hb=>?_,λj p=>m j p⟩;have:=l e (by simpa using he);simp[hb]at this;exact this
 ·cases this
theorem Pf{ops:List Oper}{k:Nat}(h:zw ops k=true):k<=ops.length:=by simp only[zw,Bool.and_eq_true]at h;simpa using h.1
def Rb (pu fr:Nat->Bool) (k:Nat):Bool:=(List.range k).all λj=>!fr j || (List.range k).all λi=>decide (i<=j) || pu i
theorem Fp{pu fr:Nat->Bool}{k j i:Nat}(h:Rb pu fr k=true)(l:j<k)(e:i<k)(hf:fr j=true)(hp:pu i=false):i<=j:=by have b:=List.all_eq_true.1 h j (List.mem_range.2 l);rw[hf]at b;simp only[Bool.not_true,Bool.false_or,List.all_eq_true,List.mem_range]at b;have d:=b i e;rw[hp,Bool.or_false]at d;simpa using d
theorem Fq{L:World->World->Prop}{pu fr:Nat->Bool}{P:Program}{ops:List Oper}{φ:Nat->Value->World->Prop}{k:Nat}{Q:Exit->Act->World->Prop}{a:Act}{w0:World}
  (W:∀{w w1 w2},L w w1->L w1 w2->L w w2) (F:∀{w w1},L w w1->L w1 w1) (H:∀{w w'},L w0 w->Below w.heap.size w w'->L w w') (D:Rb pu fr k=true) (X:zw ops k=true) (K:∀i,i<k->∀d,bv ops i=some d->d<a.tmps.size)
  (m:∀i,i<k->fr i=false->∀v w w',L w w'->φ i v w->φ i v w') (l:qm (Q8 ops) L pu fr P ops φ k Q a w0 0 (ops.take k))
  (p:∀vs w',L w0 w'->wM φ vs w' k->wpList P ops.toArray Q (ops.drop k) (bg ops vs (λ_=>true) k a) w') :
  ∀(n i:Nat)(vs:Nat->Value)(w:World),i+n=k->L w0 w->((∀j,j<i->fr j=false)->Below w0.heap.size w0 w)->(∀j,j<i->φ j (vs j) w)->wpList P ops.toArray Q (ops.drop i) (bg ops vs (λ_=>true) i a) w
 | 0,i,vs,w,hi,hL,_,hf=>by have:i=k:=oM;subst this;exact p vs w hL (uH i hf)
 | n+1,i,vs,w,hi,hL,hS,hf=>by
  have x:i<k:=oM;obtain⟨o,R,⟨d,hd⟩,a2,a0⟩:=uK X x;have J:i<ops.length:=(gS.1 R).1
  have oU:ops.drop i=o::ops.drop (i+1):=by
   rw[List.drop_eq_getElem_cons J]
   congr 1
   rw[gE J]at R;exact Option.some.inj R
  have S:=l.get (j:=i) (o:=o) (by rw[List.getElem?_take,if_pos x];exact R);rw[Nat.zero_add]at S;have Z:bv ops i=o.dst:=by simp[bv,R]
  have z:=S (bg ops vs (λ_=>true) i a) w (λt ht=>oh i (λj G _=>Pe ht G)) hL (λhp=>hS λj G=>by
   cases hfj:fr j with
   | false=>rfl
   | true=>have:=Fp D (oM:j<k) x hfj hp;omega) (by
   have:∀es:List Edge,(∀e∈es,Region.binds .any e=true->e.on<i)->pW ops φ (bg ops vs (λ_=>true) i a) w es:=by
    intro es
    induction es with
    | nil=>intro _;trivial
    | cons e es a6 =>
     intro h;refine⟨λC=>?_,a6 (λe' a1=>h e' (by simp[a1]))⟩;have N:=h e sM C;obtain⟨oe,a5,⟨de,I⟩,_,u⟩:=uK X (oM:e.on<k);have e1:bv ops e.on=some de:=by simp[bv,a5,I]
     rw[e1];simp only[Option.getD_some];rw[sS (k:=i) e1 (λj G E=>?_) rfl (K e.on oM de e1) i N (nL _)]
     ·exact hf e.on N
     ·intro hc;rcases Nat.lt_or_ge j e.on with hje|hje
      ·exact u j hje (by rw[hc,I])
      ·obtain⟨o2,a4,_,_,s⟩:=uK X (oM:j<k);exact s e.on oM (by rw[e1,<-hc];simp[bv,a4])
   exact this _ (λe he C=>a2 e (by simpa using he) C))
  have y:∀(v:Value)(w':World),(if pu i=true then w'=w else if fr i=true then L w w' else Below w.heap.size w w')->φ i v w'->wpList P ops.toArray Q (ops.drop (i+1)) ((bg ops vs (λ_=>true) i a).put o.dst v) w':=by
   intro v w' b q
   have r:L w w':=by
    split at b
    ·rw[b];exact F hL
    ·split at b
     ·exact b
     ·exact H hL b
   have e:(bg ops vs (λ_=>true) i a).put o.dst v=bg ops (λj=>if j=i then v else vs j) (λ_=>true) (i+1) a:=by
    simp only[bg,if_true,Z]
    congr 1
    exact gI i (λ_ _=>rfl) (λj G _=>by rw[if_neg oM])
   rw[e];refine Fq (L:=L) (φ:=φ) (w0:=w0) W F H D X K m l p n (i+1) _ w' oM (W hL r) ?hSS λj G=>?_
   case hSS =>
    intro O;have B:=hS λj G=>O j oM;have a3:=O i oM;by_cases hp:pu i=true
    ·rw[if_pos hp]at b;rw[b];exact B
    ·rw[if_neg hp,if_neg (by rw[a3];simp)]at b;exact B.trans (b.mono B.size)
   by_cases E:j=i
   ·subst E;simpa using q
   ·simp only[if_neg E];have M:=hf j oM;by_cases hp:pu i=true
    ·rw[if_pos hp]at b;rw[b];exact M
    ·cases hfj:fr j with
     | false=>exact m j oM hfj _ _ _ r M
     | true =>
      exfalso;have:=Fp D (oM:j<k) x hfj (by simpa using hp);omega
  rw[oU];unfold wpList;by_cases Y:Region.wanted o (yielded ops.toArray (bg ops vs (λ_=>true) i a).tmps)=true
  ·rw[if_pos Y];left;refine Oper.wp_mono ?_ (z.1 Y);rintro A' w' ⟨v,rfl,r,q⟩;exact y v w' r q
  ·rw[if_neg Y];refine y undef w ?_ (z.2 Y);split
   ·rfl
   ·split
    ·exact F hL
    ·exact Below.refl _ _
theorem aN{P:Program}{ops:List Oper}{Q:Exit->Act->World->Prop}{a:Act}{w0:World}{id:Nat}(C:True)(g:Option Nat)(T:TypeId)(s:fM g T w0)(b:List (af (Lr g T)))(k:List Tmp)
  (B:zw ops b.length=true) (x:Rb (QA b) (QB b) b.length=true) (q:((ops.take b.length).map (·.dst))=k.map some) (y:k.all (λd=>decide (d<a.tmps.size))=true)
  (l:qm (Q8 ops) (Lr g T) (QA b) (QB b) P ops (qU b) b.length Q a w0 0 (ops.take b.length))
  (htail:∀w',Lr g T w0 w'->aU P ops.toArray Q (ops.drop b.length) w' b k a) :
  (Code.region id ops.toArray false).wp P Q a w0:=by
 have lv:=Pf B
 have n:k.length=b.length:=by have:=congrArg List.length q;simp only[List.length_map,List.length_take]at this;omega
 have m:∀i d,k[i]?=some d->bv ops i=some d:=λi d hd=>by
  have p:i<k.length:=(gS.1 hd).1;have:((ops.take b.length).map (·.dst))[i]?=(k.map some)[i]?:=by rw[q]
  rw[List.getElem?_map,List.getElem?_map,hd,List.getElem?_take,if_pos oM]at this;unfold bv
  cases ho:ops[i]? with
  | none=>rw[ho]at this;cases this
  | some o=>rw[ho]at this;simpa using this
 refine wp_region_lit ?_;have:=Fq (L:=Lr g T) (P:=P) (Q:=Q) (a:=a) (w0:=w0) (λh u=>h.trans u) (λh=>h.refl') (λh u=>(s.lr h).below u) x B ?_ ?_ l ?_ b.length 0 (λ_=>undef) w0 oM s.refl (λ_=>Below.refl _ _) (λj r=>oM)
 ·simpa[bg]using this
 ·intro i D d hd;have p:i<k.length:=oM;have h1:=m i k[i] (gE p);rw[hd]at h1;have:=List.all_eq_true.1 y _ (List.getElem_mem p);cases h1;simpa using this
 ·intro i D hf v w w' hb h;exact(b.getD i .any).mono hf v w w' hb h
 ·intro vs w' hb hf
  have:=zu (vs:=vs) (a:=a) (w':=w') b k 0 n.symm (λj f r=>by
   have z:j<b.length:=(gS.1 r).1;have:=vQ _ j hf z;unfold qU at this;rw[jD,r]at this
   simpa using this) (λj d r=>by rw[Nat.zero_add];exact m j d r) (htail w' hb)
  rw[Nat.zero_add,n]at this;exact this
section
variable {g:Option Nat} {T:TypeId} {w0 w w':World} {P:Program} {ops:List Oper} {o:Oper} {A:Act} {i:Nat} {pu fr:Nat->Bool} {φ:Nat->Value->World->Prop} {Q:Exit->Act->World->Prop} {c:Value}
abbrev kP (L:World->World->Prop) (pu fr:Nat->Bool) (φ:Nat->Value->World->Prop) (o:Oper) (i:Nat) (A:Act) (w:World) (A':Act) (w':World):Prop :=
 ∃v,A'=A.put o.dst v/\(if pu i=true then w'=w else if fr i=true then L w w' else Below w.heap.size w w')/\φ i v w'
theorem aA(hp:pu i=true)(h:φ i c w)(b:(execOp A.eval o).run P w=.ok (.value c) w):o.wp P A w (kP (Lr g T) pu fr φ o i A w) Q:=by unfold Oper.wp;rw[b];exact⟨c,rfl,by rw[if_pos hp],h⟩
theorem kQ(hp:pu i=false)(hf:fr i=false)(d:Below w.heap.size w w')(h:φ i c w')(b:(execOp A.eval o).run P w=.ok (.value c) w'):o.wp P A w (kP (Lr g T) pu fr φ o i A w) Q:=by unfold Oper.wp;rw[b];exact⟨c,rfl,by rw[if_neg (by rw[hp];simp),if_neg (by rw[hf];simp)];exact d,h⟩
theorem Pg(hp:pu i=false)(hf:fr i=true)(d:Lr g T w w')(h:φ i c w')(b:(execOp A.eval o).run P w=.ok (.value c) w'):o.wp P A w (kP (Lr g T) pu fr φ o i A w) Q:=by unfold Oper.wp;rw[b];exact⟨c,rfl,by rw[if_neg (by rw[hp];simp),if_pos hf];exact d,h⟩
theorem dV(hp:pu i=false)(hf:fr i=false){f:FuncId}{args:Array Value}(b:(execOp A.eval o).run P w=.ok (.enter f args) w)
  (h:Calls P f args w λe w'=>∃v,e=.returned v/\Below w.heap.size w w'/\φ i v w'):o.wp P A w (kP (Lr g T) pu fr φ o i A w) Q:=by
 unfold Oper.wp;rw[b,Oper.upon_enter];refine h.mono ?_;rintro e w' ⟨v,rfl,d,hv⟩;exact⟨v,rfl,by rw[if_neg (by rw[hp];simp),if_neg (by rw[hf];simp)];exact d,hv⟩
end
section
variable {g:Option Nat} {T:TypeId} {w:World} {P:Program} {o:Oper} {A:Act} {i:Nat} {pu fr:Nat->Bool} {φ:Nat->Value->World->Prop} {Q:Exit->Act->World->Prop}
theorem Je{x:Operand}(b:o.op=.move x)(hp:pu i=true)(h:φ i (A.eval x) w):o.wp P A w (kP (Lr g T) pu fr φ o i A w) Q :=
 aA hp h (by unfold execOp;rw[b];rfl)
theorem iD{c x y:Operand}{b:Bool}(d:o.op=.pick c x y)(hc:A.eval c=.bool b)(hp:pu i=true)(h:φ i (cond b (A.eval x) (A.eval y)) w):o.wp P A w (kP (Lr g T) pu fr φ o i A w) Q :=
 aA hp h (by unfold execOp;rw[d];simp only[hc];cases b<;>rfl)
end
end Q
end
section
namespace Q
open Go Go.RowKit
theorem lZ:(∀(α:Type)(a:α)(l:List α),(a::l).length=l.length+1)/\(∀α:Type,([]:List α).length=0)/\(∀(α:Type)(a:α)(l:List α)(i:Nat),(a::l).drop (i+1)=l.drop i)/\∀(α:Type)(l:List α),l.drop 0=l:=⟨λ_ _ _=>rfl,λ_=>rfl,λ_ _ _ _=>rfl,λ_ _=>rfl⟩
section
variable {g:Option Nat} {T:TypeId} {w:World} {o:Oper} {A:Act} {i:Nat} {pu fr:Nat->Bool} {φ:Nat->Value->World->Prop} {R:Exit->Act->World->Prop} {P:Program} {ops:List Oper} {Y:Prop} {c:Value}
theorem nO(x:Bool){j d:Nat}{b:Bool}{X:Prop}(hv:A.eval (.tmp d)=.bool x)(hg:o.guard=some (j,b):=by rfl)(hd:bv ops j=some d:=by rfl)(e:(x==b)=false:=by rfl)(h:Y:=by rfl):Jc ops o A X Y:=Uh hg hd hv e h
theorem pK{k x y:Operand}{b:Bool}(d:o.op=.pick k x y)(hc:A.eval k=.bool b)(h:φ i (cond b (A.eval x) (A.eval y)) w)(hg:o.guard=none:=by rfl)(hp:pu i=true:=by rfl):Jc ops o A (o.wp P A w (kP (Lr g T) pu fr φ o i A w) R) Y:=ae hg (iD d hc hp h)
end
end Q
end
section
namespace Q
open Go Go.RowKit
def eU {α:Type} (E:World->List Value->α->Prop) (w:World):List Value->List α->Prop
 | xs,[]=>xs=[]
 | xs,t::l=>∃c r,xs=c++r/\E w c t/\eU E w r l
structure El (α:Type) where
 T:TypeId
 sz:Nat
 pos:0<sz
 E:World->List Value->α->Prop
 len:∀{w c t},E w c t->c.length=sz
 one:∀{w c t},E w c t->∀v∈c,v.oneCell'=true
 on:∀{w w' c t},E w c t->Below w.heap.size w w'->E w' c t
 ok:TypeId->Prop
 lr:∀{g T' w w' c t},E w c t->Lr g T' w w'->ok T'->E w' c t
 self:ok T
namespace eU
variable {α:Type} {e:El α} {w w':World}
theorem length:∀{l:List α}{b:List Value},eU e.E w b l->b.length=l.length*e.sz
 | [],b,h=>by unfold eU at h;subst h;simp
 | t::l,b,h=>by obtain⟨c,r,rfl,hc,d⟩:=h;rw[List.length_append,e.len hc,d.length,List.length_cons,Nat.add_mul];omega
theorem ones:∀{l:List α}{b:List Value},eU e.E w b l->∀v∈b,v.oneCell'=true
 | [],b,h=>by unfold eU at h;subst h;simp
 | t::l,b,h=>by
  obtain⟨c,r,rfl,hc,d⟩:=h;intro v hv;rcases List.mem_append.1 hv with hv|hv
  ·exact e.one hc v hv
  ·exact d.ones v hv
theorem on:∀{l:List α}{b:List Value},eU e.E w b l->Below w.heap.size w w'->eU e.E w' b l
 | [],_,h,_=>h
 | t::l,b,⟨c,r,h1,hc,hr⟩,hb=>⟨c,r,h1,e.on hc hb,hr.on hb⟩
theorem lr{g:Option Nat}{T:TypeId}(d:e.ok T):∀{l:List α}{b:List Value},eU e.E w b l->Lr g T w w'->eU e.E w' b l
 | [],_,h,_=>h
 | t::l,b,⟨c,r,h1,hc,hr⟩,hb=>⟨c,r,h1,e.lr hc hb d,hr.lr d hb⟩
theorem append:∀{l r:List α}{b d:List Value},eU e.E w b l->eU e.E w d r->eU e.E w (b++d) (l++r)
 | [],_,b,_,h,h'=>by unfold eU at h;subst h;exact h'
 | t::l,_,b,_,⟨c,q,h1,hc,hr⟩,h'=>⟨c,q++_,by rw[h1,List.append_assoc],hc,hr.append h'⟩
theorem single{c:List Value}{t:α}(h:e.E w c t):eU e.E w c [t]:=⟨c,[],sM,h,rfl⟩
theorem drop:∀{l:List α}{b:List Value}(k:Nat),eU e.E w b l->eU e.E w (b.drop (k*e.sz)) (l.drop k)
 | [],b,k,h=>by unfold eU at h;subst h;simp[eU]
 | t::l,b,0,h=>by simpa using h
 | t::l,b,k+1,⟨c,r,h1,hc,hr⟩=>by have:=hr.drop k;have d:=e.len hc;rw[List.drop_succ_cons,h1,show(k+1)*e.sz=c.length+k*e.sz by rw[d,Nat.add_mul];omega,<-List.drop_drop,List.drop_left];exact this
theorem take:∀{l:List α}{b:List Value}(k:Nat),eU e.E w b l->eU e.E w (b.take (k*e.sz)) (l.take k)
 | [],b,k,h=>by unfold eU at h;subst h;simp[eU]
 | t::l,b,0,h=>by simp[eU]
 | t::l,b,k+1,⟨c,r,h1,hc,hr⟩=>by have:=hr.take k;have d:=e.len hc;rw[List.take_succ_cons,h1,show(k+1)*e.sz=c.length+k*e.sz by rw[d,Nat.add_mul];omega,List.take_length_add_append];exact⟨c,_,rfl,hc,this⟩
theorem at':∀{l:List α}{b:List Value}{j:Nat}{t:α},eU e.E w b l->l[j]?=some t->∃c,e.E w c t/\∀q,q<e.sz->b[j*e.sz+q]?=c[q]?
 | [],_,_,_,_,h=>by simp at h
 | t::l,b,0,s,⟨c,r,h1,hc,hr⟩,h=>by simp at h;subst h;refine⟨c,hc,λq hq=>?_⟩;rw[h1,Nat.zero_mul,Nat.zero_add,List.getElem?_append_left (by rw[e.len hc];exact hq)]
 | t::l,b,j+1,s,⟨c,r,h1,hc,hr⟩,h=>by obtain⟨d,hd,hq⟩:=hr.at' (j:=j) (by simpa using h);refine⟨d,hd,λq i=>?_⟩;rw[h1,List.getElem?_append_right (by rw[e.len hc,Nat.add_mul];omega),e.len hc,show(j+1)*e.sz+q - e.sz=j*e.sz+q by rw[Nat.add_mul];omega];exact hq q i
end eU
def bV {α:Type} (e:El α) (w:World) (v:Value) (l:List α):Prop:=∃ao cap xs,v=.slice ao l.length cap/\l.length<=cap/\At e.T w ao xs/\eU e.E w xs l
def di {α:Type} (e:El α) (base:Nat) (w:World) (v:Value) (l:List α):Prop:=∃xs,w.ownsRow base e.T e.sz v l.length xs/\eU e.E w xs l
section
variable {α:Type} {e:El α} {w w':World} {v:Value} {l:List α} {base:Nat}
theorem bV.on(h:bV e w v l)(hb:Below w.heap.size w w'):bV e w' v l :=
 let ⟨ao,cap,xs,h1,h2,h3,h4⟩:=h;⟨ao,cap,xs,h1,h2,h3.on hb,h4.on hb⟩
theorem bV.lr{g:Option Nat}{T:TypeId}(h:bV e w v l)(d:Lr g T w w')(i:e.ok T)(b:e.T≠T):bV e w' v l :=
 let ⟨ao,cap,xs,h1,h2,h3,h4⟩:=h;⟨ao,cap,xs,h1,h2,h3.lr d b,h4.lr i d⟩
theorem bV.nil(e:El α)(w:World):bV e w (.slice none 0 0) []:=⟨none,0,[],rfl,nL _,At.nil,rfl⟩
theorem bV.one(h:bV e w v l):v.oneCell'=true:=by obtain⟨b,cap,d,rfl,_⟩:=h;rfl
theorem bV.shape(h:bV e w v l):∃b cap,v=.slice b l.length cap/\l.length<=cap:=let ⟨b,cap,_,h1,h2,_⟩:=h;⟨b,cap,h1,h2⟩
theorem Wm{T:TypeId}{w:World}{d:Option Addr}{i:List Value}{n sz c:Nat}(h:At T w d i)(j:i.length=n*sz)(hc:n<=c)(k:Nat):At T w (if c=k then d else d.map (·.add (k*sz))) (i.drop (k*sz)):=λhp=>by
 simp only[List.length_drop,j,<-Nat.sub_mul]at hp
 have l:k<n:=by
  rcases Nat.lt_or_ge k n with h|h
  ·exact h
  ·rw[Nat.sub_eq_zero_of_le h]at hp;simp at hp
 obtain⟨b,off,rfl,e⟩:=h (by rw[j];have:1*1<=n*sz:=Nat.mul_le_mul oM (by rcases Nat.eq_zero_or_pos sz with h|h;(· subst h;simp at hp);exact h);omega);refine⟨b,off+k*sz,?_,e.drop _⟩;rw[if_neg oM];simp only[Option.map_some,Addr.add];split
 ·rename_i h0;rw[h0];rfl
 ·rfl
theorem bV.drop{b:Option Addr}{n c:Nat}(h:bV e w (.slice b n c) l)(k:Nat):bV e w (.slice (if c=k then b else b.map (·.add (k*e.sz))) (n-k) (c-k)) (l.drop k):=by obtain⟨i,cap,p,j,m,o,d⟩:=h;cases j;exact⟨_,c - k,_,by rw[List.length_drop],by rw[List.length_drop];omega,Wm o d.length m k,d.drop k⟩
theorem bV.take{b:Option Addr}{n c:Nat}(h:bV e w (.slice b n c) l)(k:Nat)(o:k<=n):bV e w (.slice b k c) (l.take k):=by obtain⟨d,cap,q,i,p,j,m⟩:=h;cases i;exact⟨_,c,_,by rw[List.length_take,Nat.min_eq_left o],by rw[List.length_take];omega,j.take _,m.take k⟩
theorem bV.get{o:Option Addr}{n c j:Nat}{t:α}(h:bV e w (.slice o n c) l)(p:l[j]?=some t):∃b off cs,o=some ⟨b,off,none⟩/\n=l.length/\e.E w cs t/\bL e.T w b (off+j*e.sz) cs:=by
 obtain⟨s,cap,F,u,D,x,k⟩:=h;cases u;have B:j<l.length:=(gS.1 p).1;have r:=e.pos
 have z:j*e.sz+e.sz<=l.length*e.sz:=by have:=Nat.mul_le_mul_right e.sz (oM:j+1<=l.length);rw[Nat.add_mul]at this;omega
 obtain⟨b,off,rfl,hc⟩:=x (by rw[k.length];omega);obtain⟨d,hd,hq⟩:=k.at' p;obtain⟨C,fr,y,m⟩:=hc;refine⟨b,off,d,rfl,rfl,hd,C,fr,y,λq i=>?_⟩;rw[e.len hd]at i;rw[Nat.add_assoc,m _ (by rw[k.length];omega)];exact hq q i
theorem bL.range{T:TypeId}{w:World}{b off:Nat}{cs:List Value}(h:bL T w b off cs):w.rangeAt b off cs:=λj v hv=>by rw[h.cell j (gS.1 hv).1];exact hv
theorem di.nil(e:El α)(base:Nat)(w:World):di e base w (.slice none 0 0) []:=⟨[],World.ownsRow_nil w base e.T e.sz,rfl⟩
theorem di.isSl(h:di e base w v l):bV e w v l:=by
 obtain⟨o,n,he⟩:=h;rcases n.2 with ⟨rfl,h0⟩|⟨g,cap,b,rfl,hb,hg,m,hc,i,d⟩
 ·have:l=[]:=List.eq_nil_of_length_eq_zero h0;subst this;exact bV.nil e w
 ·refine⟨_,cap,o,rfl,m,λhp=>⟨g,0,rfl,b,(0,0),hg,λj k=>?_⟩,he⟩;rw[Nat.zero_add,<-d,List.getElem?_take,if_pos (by rw[<-he.length];exact k)];simp
theorem di.okr(h:di e base w v l):fM v.ownBlock e.T w:=let ⟨_,ho,_⟩:=h;Jb ho
theorem di.base_le(h:di e base w v l):∀k,v.ownBlock=some k->base<=k/\k<w.heap.size:=let ⟨_,ho,_⟩:=h;ho.lt
theorem di.on(h:di e base w v l)(hb:Below w.heap.size w w'):di e base w' v l:=by obtain⟨d,b,he⟩:=h;exact⟨d,b.kept (bX hb none) (by cases v.ownBlock<;>simp),he.on hb⟩
theorem di.lr{g:Option Nat}{T:TypeId}(h:di e base w v l)(d:Lr g T w w')(i:e.ok T)(b:v.ownBlock=none\/v.ownBlock≠g):di e base w' v l:=by obtain⟨k,j,he⟩:=h;exact⟨k,j.kept d.1 b,he.lr i d⟩
theorem di.shape(h:di e base w v l):∃b cap,v=.slice b l.length cap/\l.length<=cap:=h.isSl.shape
end
section
variable {P:Program}
theorem iA{t el:TypeId}(m:P.underlying t=some (.slice el)){size:Nat}(d:(P.info? el).map (·.size)=some size)(w:World)(a:Option Addr)(n c j:Nat)(k:IntKind)(lo:Int)(b:lo=(j:Int))(o:j<=n)(p:n<=c) :
  (Instr.sliceAt t (.slice a n c) (some (.int k lo)) none none).run P w=.ok (.slice (if c=j then a else a.map (·.add (j*size))) (n-j) (c-j)) w:=by
 subst b
 obtain⟨i,l,rfl⟩:∃i,P.info? el=some i/\i.size=size:=by
  cases h:P.info? el with
  | none=>simp[h]at d
  | some i=>simp[h]at d;exact⟨i,rfl,d⟩
 have e:(Instr.sliceBound (.int k (j:Int)) n .sliceB).run P w=.ok j w:=by have:=run_sliceBound (P:=P) w k (j:Int) n .sliceB oM oM;simpa using this
 simp[Instr.sliceAt,Instr.slice,Instr.sliceBounds,run_underlying m,e,Result.andThen,Go.sizeOf,typeInfo,l]
theorem kR{t el:TypeId}(p:P.underlying t=some (.slice el)){size:Nat}(l:(P.info? el).map (·.size)=some size)(w:World)(a:Option Addr)(n c j:Nat)(k:IntKind)(b:Int)(d:b=(j:Int))(q:j<=c) :
  (Instr.sliceAt t (.slice a n c) none (some (.int k b)) none).run P w=.ok (.slice a j c) w:=by
 subst d
 obtain⟨i,o,rfl⟩:∃i,P.info? el=some i/\i.size=size:=by
  cases h:P.info? el with
  | none=>simp[h]at l
  | some i=>simp[h]at l;exact⟨i,rfl,l⟩
 have m:(Instr.sliceBound (.int k (j:Int)) c .sliceAcap).run P w=.ok j w:=by have:=run_sliceBound (P:=P) w k (j:Int) c .sliceAcap oM oM;simpa using this
 have e:(if c=0 then a else Option.map (λx=>x.add (0*i.size)) a)=a:=by
  split
  ·rfl
  ·cases a<;>simp[Addr.add]
 simp[Instr.sliceAt,Instr.slice,Instr.sliceBounds,run_underlying p,m,Result.andThen,Go.sizeOf,typeInfo,o];intro _;cases a<;>simp[Addr.add]
theorem Fs{t el:TypeId}(m:P.underlying t=some (.slice el)){size:Nat}(l:(P.info? el).map (·.size)=some size)(w:World)(b off n c j:Nat)(k:IntKind)(i:Int)(e:i=(j:Int))(o:j<n) :
  (Instr.indexAt t (.slice (some ⟨b,off,none⟩) n c) (.int k i)).run P w=.ok (.pointer (some ⟨b,off+j*size,none⟩)) w:=by
 subst e
 obtain⟨p,d,rfl⟩:∃i,P.info? el=some i/\i.size=size:=by
  cases h:P.info? el with
  | none=>simp[h]at l
  | some i=>simp[h]at l;exact⟨i,rfl,l⟩
 have hp:P.underlying t=some (.slice (P.elem t)):=by simp[Program.elem,m]
 rw[run_indexAt_slice (h:=hp),if_pos oM];have he:P.elem t=el:=by simp[Program.elem,m]
 simp only[he];simp[Go.sizeOf,typeInfo,d,Addr.add]
theorem ry{α:Type}{e:El α}{t ty:TypeId}(R:P.underlying t=some (.slice e.T)){z:Value}{bytes:Nat}(E:(P.info? e.T).map (λi=>(i.zero,i.size,i.bytes))=some (some z,e.sz,bytes))(hz:z.cells.size=e.sz)
  {w:World} {base:Nat} {v u:Value} {l r:List α} (ho:di e base w v l) (hu:bV e w u r) (B:l.length+r.length<=1000000000) (J:bytes<=100000) (D:base<=w.heap.size) :
  ∃G w',(Builtin.append_ #[t,t] ty #[v,u]).run P w=.ok G w'/\di e base w' G (l++r)/\Lr v.ownBlock e.T w w'/\(G.ownBlock=v.ownBlock\/G.ownBlock=some w.heap.size):=by
 have N:=ho.okr;obtain⟨i,E,S,s,W⟩:=info_parts E;obtain⟨X,n,hex⟩:=ho;obtain⟨ao,cap,y,rfl,a2,Z,d⟩:=hu;by_cases hr:r=[]
 ·subst hr;refine⟨v,w,?_,?_,N.refl,.inl rfl⟩
  ·rcases n.2 with ⟨rfl,h0⟩|⟨g,m,x,rfl,_,_,M,_⟩
   ·cases ao<;>simp[Builtin.append_,run_underlying R,Go.sizeOf,typeInfo,E,Builtin.lenOf,Builtin.firstCells,loadCells,loadCellsFrom,Result.andThen,storeCells]
   ·cases ao<;>simp[Builtin.append_,run_underlying R,Go.sizeOf,typeInfo,E,Builtin.lenOf,Builtin.firstCells,loadCells,loadCellsFrom,Result.andThen,storeCells,M]
  ·rw[List.append_nil];exact⟨X,n,hex⟩
 ·have O:0<y.length:=by
   rw[d.length];exact Nat.mul_pos (by cases r with|nil=>exact absurd rfl hr|cons=>simp) e.pos
  obtain⟨b,off,rfl,K⟩:=Z O
  obtain⟨G,w',q,h2,h3,-,h5⟩:=run_append_own_at (P:=P) w base t ty e.T i z e.sz bytes R E S s W hz e.pos v l.length X n ⟨b,off,none⟩ r.length cap y d.length
   (λj u hu=>by
    have F:j<y.length:=(gS.1 hu).1;rw[Addr.add_mid]
    exact(K.cell j F).trans hu) d.ones (by unfold maxLen;omega) (by
     have h1:(l.length+r.length)*bytes<=1000000000*100000:=Nat.mul_le_mul B J
     omega) D
  have hl:Lr v.ownBlock e.T w w':=by
   refine⟨h3,λk Y=>⟨(N k Y).2,?_⟩⟩;rcases n.2 with ⟨rfl,_⟩|⟨g,m,x,rfl,a3,hg,M,a4,a0,a1⟩
   ·simp[Value.ownBlock]at Y
   ·simp[Value.ownBlock]at Y;subst Y
    have o:∀j u,y[j]?=some u->w.cell? ((⟨b,off,none⟩:Addr).add j)=some u:=λj u hu=>by have F:j<y.length:=(gS.1 hu).1;rw[Addr.add_mid];exact(K.cell j F).trans hu
    by_cases p:l.length+r.length<=m
    ·have L:l.length*i.size+y.length<=x.size:=by rw[d.length,a0,s,<-Nat.add_mul];exact Nat.mul_le_mul_right _ p
     have h:=run_append_room (P:=P) w t ty e.T i R E g l.length m x hg ⟨b,off,none⟩ r.length cap y (by rw[s];exact d.length) o d.ones p L;rw[q]at h;simp only[Result.ok.injEq]at h;rw[h.2];intro C T' fr H;rw[setRow_heap w g x _ e.T _ hg]at H;cases H;rfl
    ·have holds:∀j u,X[j]?=some u->w.cell? ((⟨g,0,none⟩:Addr).add j)=some u:=n.cells (g:=g) rfl
     have h:=run_append_grow (P:=P) w t ty e.T i z R E S ⟨g,0,none⟩ l.length m X (by rw[s];exact n.1) holds ⟨b,off,none⟩ r.length cap y (by rw[s];exact d.length) o oM oM
      (growslice_fits oM (by
       have h1:(l.length+r.length)*bytes<=1000000000*100000:=Nat.mul_le_mul B J
       rw[W];omega))
     rw[q]at h;simp only[Result.ok.injEq]at h;rw[h.2];intro C T' fr H;rw[show _=w.heap[g]? from Go.heap_alloc_old w.drew _ (sO hg)]at H;have I:w.heap[g]?=some (.cells C T' fr):=H;rw[hg]at I;cases I;rfl
  refine⟨G,w',q,⟨X++y,by rw[List.length_append];exact h2,(hex.lr ?_ hl).append (d.lr ?_ hl)⟩,hl,h5⟩
  ·exact e.self
  ·exact e.self
end
end Q
end
section
namespace Q
open Go Go.RowKit
section
variable {L:World->World->Prop} {pu fr:Nat->Bool} {P:Program} {ops:List Oper} {φ:Nat->Value->World->Prop} {k z:Nat} {Q:Exit->Act->World->Prop} {a:Act} {w0:World} {d:Tmp} {c:Value}
def xV (P:Program) (ops:Array Oper) (Q:Exit->Act->World->Prop) (z:Nat) (d:Tmp) (c:Value):List Oper->Act->World->Prop
 | [],A,w=>wpList P ops Q [] (A.put (some d) c) w
 | o::r,A,w=>wpList P ops Q (o::r) (A.put (some d) c) w/\(o.after.toList.any (λe=>Region.binds .any e&&e.on==z)=true\/(o.guard=none/\o.wp P A w (λA' w'=>xV P ops Q z d c r A' w') Q))
theorem xV.fst{b:Array Oper}:∀{l:List Oper}{A:Act}{w:World},xV P b Q z d c l A w->wpList P b Q l (A.put (some d) c) w
 | [],_,_,h=>h
 | _::_,_,_,h=>h.1
structure Lt (P:Program) (ops:List Oper) (φ:Nat->Value->World->Prop) (k:Nat) (Q:Exit->Act->World->Prop) (z:Nat) (d:Tmp) (c:Value):Prop where
 lt:z<k
 op:∃o,ops[z]?=some o/\o.dst=some d/\o.guard=none/\(∀e∈o.after,¬Region.binds .any e=true)/\∀A w,o.wp P A w (λA' w'=>A'=A.put (some d) c/\w'=w) Q
 val:∀v w,φ z v w->v=c
theorem Ph(R:oJ ops k z=true)(hf:Lt P ops φ k Q z d c):∀(fuel i:Nat)(listed:Array Bool)(A:Act)(w:World),k<=i->i<=ops.length->listed.size=ops.length ->
  (∀i o,listed.getD i false=true->ops[i]?=some o->∀e∈o.after,Region.binds .any e=true->listed.getD e.on false=true) ->
  (∀j,j<i->j≠z->listed.getD j false=true)->listed.getD z false=false->(∀j,i<=j->listed.getD j false=false)->ops.length-i+1<=fuel->xV P ops.toArray Q z d c (ops.drop i) A w ->
  wpAny P .any ops.toArray Q fuel listed A w:=by
 obtain⟨oz,y,X,H,N,O⟩:=hf.op;have L:=hf.lt;intro fuel
 induction fuel with
 | zero=>intro i listed A w _ _ _ _ _ _ _ h;omega
 | succ fuel ih =>
  intro i listed A w K Z q C s hz p Y h;have F:z∈Region.ready .any ops.toArray listed:=mem_ready.2 ⟨by rw[fE oM];exact hz,oz,by rw[gm];exact y,λe he hb=>absurd hb (N e he)⟩;refine⟨λhn=>(by rw[hn]at F;cases F),λj hj=>?_⟩;obtain⟨h0,oj,b,hall⟩:=mem_ready.1 hj;rw[gm]at b;have l:j<ops.length:=(gS.1 b).1;rw[fE oM]at h0;by_cases u:j=z
  ·subst u;rw[y]at b;cases b;unfold wpOp;rw[gm,y];simp only;rw[if_pos (by simp[Region.wanted,H])];left;refine Oper.wp_mono ?_ (O A w);rintro A' w' ⟨rfl,rfl⟩;refine zq R (.inl L) fuel i _ _ _ K Z (by simpa using q) (λm hm=>?_) (λm hm=>?_) oM h.fst
   ·by_cases n:m=j
    ·subst n;simp[Array.getD_eq_getD_getElem?,q,l]
    ·rw[getD_set_ne _ (Ne.symm n)];exact s m hm n
   ·rw[getD_set_ne _ oM];exact p m hm
  ·have I:i<=j:=by
    rcases Nat.lt_or_ge j i with h'|h'
    ·rw[s j h' u]at h0;cases h0
    ·exact h'
   have J:j=i:=by
    rcases Nat.eq_or_lt_of_le I with h'|h'
    ·exact h'.symm
    ·exfalso;obtain⟨a0,r,G,hreach'⟩:=oo R (oM:k<=j) l;rw[b]at r;cases r;have:=gP C _ _ (λe he hb=>hall e (by simpa using he) hb) (hreach' i h' oM);rw[p i (nL _)]at this;cases this
   subst J
   have hd:ops.drop j=oj::ops.drop (j+1):=by
    rw[List.drop_eq_getElem_cons l]
    congr 1
    rw[gE l]at b;exact Option.some.inj b
   rw[hd]at h;obtain⟨-,h⟩:=h;rcases h with h|⟨hg,h⟩
   ·exfalso;simp only[List.any_eq_true,Bool.and_eq_true,beq_iff_eq]at h;obtain⟨e,he,hb,rfl⟩:=h;have:=hall e (by simpa using he) hb;rw[hz]at this;cases this
   ·unfold wpOp;rw[gm,b];simp only;rw[if_pos (by simp[Region.wanted,hg])];left;refine Oper.wp_mono ?_ h;intro A' w' W;refine ih (j+1) _ A' w' oM oM (by simpa using q) ?_ ?_ ?_ ?_ oM W
    ·intro S o' E x e he B;by_cases D:S=j
     ·subst D;rw[b]at x;cases x;exact getD_set_true (hall e he B)
     ·rw[getD_set_ne _ (Ne.symm D)]at E;exact getD_set_true (C S o' E x e he B)
    ·intro m hm M;by_cases n:m=j
     ·subst n;simp[Array.getD_eq_getD_getElem?,q,l]
     ·rw[getD_set_ne _ (Ne.symm n)];exact s m oM M
    ·rw[getD_set_ne _ u];exact hz
    ·intro m hm;rw[getD_set_ne _ oM];exact p m oM
end
def uL {L:World->World->Prop} (K:Act->Prop) (z:Nat) (w':World):Nat->List (af L)->List Tmp->Act->Prop
 | i,f::fs,d::ds,a=>bif i==z then uL K z w' (i+1) fs ds a else match f.eqv with
  | some c=>uL K z w' (i+1) fs ds (a.put (some d) c)
  | none=>∀v,f.p v w'->uL K z w' (i+1) fs ds (a.put (some d) v)
 | _,_,_,a=>K a
theorem Cv{L:World->World->Prop}{ops:List Oper}{K:Act->Prop}{z:Nat}{w':World}{vs:Nat->Value}{a:Act} :
  ∀(k:List (af L))(e:List Tmp)(i:Nat),k.length=e.length->(∀j (f:af L),k[j]?=some f->i+j≠z->f.p (vs (i+j)) w')->(∀j (d:Tmp),e[j]?=some d->bv ops (i+j)=some d) ->
   uL K z w' i k e (bg ops vs (λj=>j != z) i a)->K (bg ops vs (λj=>j != z) (i+e.length) a)
 | [],[],i,_,_,_,h=>h
 | f::k,d::e,i,hl,hf,hd,h=>by
  have l:bv ops i=some d:=hd 0 d rfl
  have o:uL K z w' (i+1) k e (bg ops vs (λj=>j != z) (i+1) a):=by
   unfold uL at h;by_cases b:i=z
   ·have:(i==z)=true:=by simpa using b
    rw[this]at h;simp only[bg,show(i != z)=false from by simp[b]];exact h
   ·have:(i==z)=false:=by simpa using b
    rw[this]at h;have h0:=hf 0 f rfl b;rw[Nat.add_zero]at h0;simp only[bg,show(i != z)=true from by simp[b],if_true,l];simp only[cond_false]at h;split at h
    ·rename_i c hc;rw[f.is c hc _ _ h0];exact h
    ·exact h _ h0
  have:=Cv k e (i+1) (by simpa using hl) (λj n m hz=>by rw[(oM:i+1+j=i+(j+1))]at hz ⊢;exact hf (j+1) n (by simpa using m) hz)
   (λj d' m=>by rw[(oM:i+1+j=i+(j+1))];exact hd (j+1) d' (by simpa using m)) o
  rw[show i+(d::e).length=i+1+e.length by simp;omega];exact this
 | [],_::_,_,h,_,_,_=>by simp at h
 | _::_,[],_,h,_,_,_=>by simp at h
theorem Pi{P:Program}{ops:List Oper}{Q:Exit->Act->World->Prop}{g:Option Nat}{T:TypeId}{i:List (af (Lr g T))}{z:Nat}{d:Tmp}{c:Value}
  (h:∃o,ops[z]?=some o/\o.dst=some d/\o.guard=none/\o.after.toList.all (λe=>!Region.binds .any e)=true/\i[z]?=some (.eq c)/\∀(A:Act) w,(execOp A.eval o).run P w=.ok (.value c) w):Lt P ops (qU i) i.length Q z d c:=by
 obtain⟨o,j,hd,hg,he,hf,b⟩:=h;refine⟨(gS.1 hf).1,⟨o,j,hd,hg,λe h hb=>?_,λA w=>?_⟩,λv w hv=>?_⟩
 ·have:=List.all_eq_true.1 he e (by simpa using h);rw[hb]at this;cases this
 ·unfold Oper.wp;rw[b A w];exact⟨by rw[hd],rfl⟩
 ·unfold qU at hv;rw[jD,hf]at hv;exact hv
theorem G9{P:Program}{ops:List Oper}{Q:Exit->Act->World->Prop}{a:Act}{w0:World}{id:Nat}(hm:P.follows .mixedOrders=true)(g:Option Nat)(T:TypeId)(Y:fM g T w0)(b:List (af (Lr g T)))(s:List Tmp)(D:Nat->Bool)(z:Nat)(d:Tmp)(c:Value)
  (hD:Fh (Lr g T) (QA b) (QB b) P ops (qU b) b.length Q w0 D) (B:Lt P ops (qU b) b.length Q z d c) (R:D z=false)
  (O:oJ ops b.length z=true) (a4:wU ops (QA b) (QB b) b.length=true) (S:((ops.take b.length).map (·.dst))=s.map some) (a6:s.all (λd=>decide (d<a.tmps.size))=true)
  (F:qm (wT ops b.length) (Lr g T) (QA b) (QB b) P ops (qU b) b.length Q a w0 0 (ops.take b.length))
  (M:∀w' vs,Lr g T w0 w'->(∀i j,i<b.length->j<b.length->i≠j->D i=true->D j=true->vs i≠vs j)->uL (λA=>xV P ops.toArray Q z d c (ops.drop b.length) A w') z w' 0 (uJ D vs 0 b) s a) :
  (Code.region id ops.toArray true).wp P Q a w0:=by
 have lv:=rJ O
 have J:s.length=b.length:=by have:=congrArg List.length S;simp only[List.length_map,List.length_take]at this;omega
 have H:∀i d,s[i]?=some d->bv ops i=some d:=λi d hd=>by
  have L:i<s.length:=(gS.1 hd).1;have:((ops.take b.length).map (·.dst))[i]?=(s.map some)[i]?:=by rw[S]
  rw[List.getElem?_map,List.getElem?_map,hd,List.getElem?_take,if_pos oM]at this;unfold bv
  cases ho:ops[i]? with
  | none=>rw[ho]at this;cases this
  | some o=>rw[ho]at this;simpa using this
 have E:=B.lt;obtain⟨oz,a9,a3,-,-,-⟩:=B.op;have I:bv ops z=some d:=by unfold bv;rw[a9];exact a3
 refine rM hD hm (λh n=>h.trans n) (λh=>h.refl') (λh n=>(Y.lr h).below n) a4 O ?_ ?_ ?_ F ?_
 ·exact Y.below ⟨rfl,rfl,rfl,nL _,λ_ _=>rfl⟩
 ·rw[List.all_eq_true];intro i W;have aa:=List.mem_range.1 W;have L:i<s.length:=oM;rw[H i s[i] (gE L)];exact List.all_eq_true.1 a6 _ (List.getElem_mem L)
 ·intro i W hf v w w' hb h;exact(b.getD i .any).mono hf v w w' hb h
 ·intro fuel listed vs w r a0 hall' q hb Z a2 hf
  have hT:xV P ops.toArray Q z d c (ops.drop b.length) (bg ops vs (λj=>j != z) b.length a) w:=by
   have hp:∀j (f:af (Lr g T)),(uJ D vs 0 b)[j]?=some f->0+j≠z->f.p (vs (0+j)) w:=by
    intro j f m X;rw[Nat.zero_add]at X ⊢
    have C:j<b.length:=by have:=(gS.1 m).1;rwa[xU]at this
    have N:=Z j C (hall' j C X);unfold qU at N;rw[jD,gE C]at N
    have:∀(l:List (af (Lr g T)))(i j:Nat)(x f:af (Lr g T)),l[j]?=some x->(uJ D vs i l)[j]?=some f->x.p (vs (i+j)) w->f.p (vs (i+j)) w:=by
     intro l
     induction l with
     | nil=>intro i j x f h;simp at h
     | cons y l ih =>
      intro i j x f h n hx
      cases j with
      | zero =>
       simp only[List.getElem?_cons_zero,sJ]at h;simp only[uJ,List.getElem?_cons_zero,sJ]at n;subst h;subst n
       cases hd:D i with
       | true=>exact⟨hx,rfl⟩
       | false=>exact hx
      | succ j =>
       simp only[List.getElem?_cons_succ]at h;simp only[uJ,List.getElem?_cons_succ]at n;rw[(oM:i+(j+1)=i+1+j)]at hx ⊢;exact ih (i+1) j x f h n hx
    have h2:=this b 0 j b[j] f (gE C) m (by rw[Nat.zero_add];exact N);rwa[Nat.zero_add]at h2
   have h3:=M w vs hb λi j W m a5 h n=>a2 i j W m a5 h n (hall' i W (λe=>by rw[e,R]at h;cases h)) (hall' j m (λe=>by rw[e,R]at n;cases n));have:=Cv (vs:=vs) (a:=a) (uJ D vs 0 b) s 0 ((xU b 0).trans J.symm) hp (λj d m=>by rw[Nat.zero_add];exact H j d m) h3;rw[Nat.zero_add,J]at this;exact this
  cases hz:listed.getD z false with
  | true =>
   have G:∀j,j<b.length->listed.getD j false=true:=λj m=>by
    by_cases h:j=z
    ·rw[h];exact hz
    ·exact hall' j m h
   refine zq O (.inl E) _ b.length listed _ w (nL _) lv r G q (Nat.le_trans (Lp lv r q) hf) ?_;have N:=hT.fst;have hc:=B.val _ _ (Z z E hz)
   have a1:∀j,j<b.length->j≠z->bv ops z≠none->bv ops j≠bv ops z:=by
    intro j m ab _;obtain⟨o1,a7,_,_,K⟩:=iw O E;rcases Nat.lt_or_ge j z with h|h
    ·have e1:bv ops z=o1.dst:=by simp[bv,a7]
     rw[e1];exact K j h
    ·obtain⟨o2,a8,_,_,u⟩:=iw O m;have e2:bv ops j=o2.dst:=by simp[bv,a8]
     rw[e2];exact λn=>u z oM n.symm
   have h2:=sQ (a:=a) (vs:=vs) (v:=vs z) (p:=λj=>j != z) (i:=z) sM a1 ⟨d,I⟩ b.length E (nL _);rw[I,hc]at h2;rw[<-h2]at N;rwa[gI (vs':=vs) (p':=λj=>listed.getD j false) b.length (λj m=>?_) (λj _ _=>?_)]at N
   ·rw[G j m];by_cases h:j=z<;>simp[h]
   ·by_cases h:j=z
    ·rw[if_pos h,h];exact hc.symm
    ·rw[if_neg h]
  | false =>
   have hl:=Cr r (i:=z) (by rw[fE oM];exact hz);have hk:=Lp (ops:=ops) (k:=b.length) (listed:=listed.setIfInBounds z true) lv (by simpa using r) λj m=>by rw[getD_set_ne _ oM];exact q j m
   refine Ph O B fuel b.length listed _ w (nL _) lv r a0 hall' hz q oM ?_;rwa[gI (vs':=vs) (p':=λj=>listed.getD j false) b.length (λj m=>?_) (λj _ _=>rfl)]at hT;by_cases h:j=z
   ·subst h;rw[hz];simp
   ·rw[hall' j m h];simp[h]
theorem Ay{P:Program}{b:Array Oper}{Q:Exit->Act->World->Prop}{rest:List Oper}{o:Oper}{a:Act}{w:World}{z:Nat}{d:Tmp}{c:Value}(hg:o.guard=none)(ty:TypeId)(x y:Tmp)(i:o.op=.store ty (.tmp x) (.tmp y))(n:x≠d)(q:y≠d)(hd:o.dst=none)
  (g:Nat) (T:TypeId) (cs:List Value) (vs:Array Value) (s:a.eval (.tmp x)=.pointer (some ⟨g,0,none⟩)) (u:a.eval (.tmp y)=.agg vs) (l:Blk w g T cs) (D:vs.size=cs.length)
  (r:(P.info? ty).map (·.size)=some vs.size) (j:vs.all (·.oneCell')=true)
  (C:∀w',Blk w' g T vs.toList->w.grownBy w' (some g)->xV P b Q z d c rest a w'):xV P b Q z d c (o::rest) a w:=by
 have hb:xV P b Q z d c rest a (w.setCells g 0 vs.toList):=by obtain⟨j,B⟩:=eO vs.toList 0 w cs l (by simp;omega);exact C _ (by simpa[D]using j) B
 have m:(a.put (some d) c).eval (.tmp x)=.pointer (some ⟨g,0,none⟩):=by rw[Act.eval_put (λe h k=>by cases h;cases k;exact n rfl)];exact s
 have p:(a.put (some d) c).eval (.tmp y)=.agg vs:=by rw[Act.eval_put (λe h k=>by cases h;cases k;exact q rfl)];exact u
 refine⟨wpList_store_mid hg ty (.tmp x) (.tmp y) i g 0 vs m p (l.there 0 _ oM) r j ?_,.inr ⟨hg,wp_store_mid ty (.tmp x) (.tmp y) i g 0 vs s u (l.there 0 _ oM) r j ?_⟩⟩
 ·rw[hd];exact hb.fst
 ·rw[hd];exact hb
end Q
end
