/- A region that draws its order, in which one row of the function's own, or one map, may be written: by vJ on its operations' values, under a relation on worlds. No program in sight. -/
import Derived.Test.YtopclbeomcggiaaGreatW04
import Derived.Deep.AppendLies
set_option linter.unusedVariables false
set_option linter.unusedSimpArgs false
set_option maxHeartbeats 16000000
set_option maxRecDepth 100000
section
namespace Q
open Go Go.RowKit
def kR (w:World) (k:Nat) (T:TypeId):Prop:=∀C T' fr,w.heap[k]?=some (.cells C T' fr)->T'=T
def Lr (g:Option Nat) (T:TypeId) (w w':World):Prop:=w.grownBy w' g/\∀k,g=some k->kR w k T/\kR w' k T
theorem qJ{w w1 i:World}{g:Option Nat}(b:w.grownBy w1 g)(d:w1.grownBy i g):w.grownBy i g :=
 ⟨d.os.trans b.os,d.tape.trans b.tape,d.output.trans b.output,Nat.le_trans b.size d.size,λk h e=>(d.block k (Nat.lt_of_lt_of_le h b.size) e).trans (b.block k h e)⟩
theorem bW{w w':World}(h:Below w.heap.size w w')(g:Option Nat):w.grownBy w' g:=⟨h.os,h.tape,h.output,h.size,λk b _=>h.block k b⟩
theorem Lr.trans{g:Option Nat}{T:TypeId}{w w1 h:World}(b:Lr g T w w1)(d:Lr g T w1 h):Lr g T w h :=
 ⟨qJ b.1 d.1,λk e=>⟨(b.2 k e).1,(d.2 k e).2⟩⟩
theorem Lr.refl{g:Option Nat}{T:TypeId}{w:World}(h:∀k,g=some k->kR w k T):Lr g T w w:=⟨World.grownBy.refl _ _,λk b=>⟨h k b,h k b⟩⟩
theorem Lr.refl'{g:Option Nat}{T:TypeId}{w w':World}(h:Lr g T w w'):Lr g T w' w':=Lr.refl λk b=>(h.2 k b).2
def fK (g:Option Nat) (T:TypeId) (w:World):Prop:=∀k,g=some k->k<w.heap.size/\kR w k T
theorem fK.none{T:TypeId}{w:World}:fK none T w:=λ_ h=>by cases h
theorem fK.refl{g:Option Nat}{T:TypeId}{w:World}(h:fK g T w):Lr g T w w:=Lr.refl λk b=>(h k b).2
theorem fK.below{g:Option Nat}{T:TypeId}{w w':World}(h:fK g T w)(hb:Below w.heap.size w w'):Lr g T w w' :=
 ⟨bW hb g,λk b=>⟨(h k b).2,λC T' fr d=>(h k b).2 C T' fr (by rw[<-hb.block k (h k b).1];exact d)⟩⟩
theorem fK.lr{g:Option Nat}{T:TypeId}{w w':World}(h:fK g T w)(d:Lr g T w w'):fK g T w':=λk b=>⟨Nat.lt_of_lt_of_le (h k b).1 d.1.size,(d.2 k b).2⟩
theorem Blk.noOther{w:World}{g:Nat}{T:TypeId}{cs:List Value}(h:Blk w g T cs):kR w g T:=λC T' fr b=>by unfold Blk at h;rw[h]at b;cases b;rfl
theorem kR.map{w:World}{k:Nat}{T:TypeId}{es:Array MapEntry}{c:Nat}(h:w.heap[k]?=some (.map es c)):kR w k T:=λC T' fr b=>by rw[h]at b;cases b
theorem H8{w:World}{base:Nat}{e:TypeId}{size:Nat}{v:Value}{n:Nat}{j:List Value}(h:w.ownsRow base e size v n j):fK v.ownBlock e w:=by
 intro k b;refine⟨(h.lt k b).2,?_⟩;rcases h.2 with ⟨rfl,_⟩|⟨g,cap,i,rfl,_,hg,_⟩
 ·simp[Value.ownBlock]at b
 ·simp[Value.ownBlock]at b;subst b;intro C T' fr d;rw[hg]at d;cases d;rfl
theorem bS.lr{g:Option Nat}{T T':TypeId}{w w':World}{b off:Nat}{cs:List Value}(h:bS T' w b off cs)(i:Lr g T w w')(k:T'≠T):bS T' w' b off cs:=by
 obtain⟨C,fr,d,j⟩:=h;refine⟨C,fr,?_,j⟩;rw[i.1.block b (rJ d) (λe=>?_)]
 ·exact d
 ·exact k ((i.2 b e.symm).1 C T' fr d)
theorem bS.lr'{g:Option Nat}{T T':TypeId}{w w':World}{b off:Nat}{cs:List Value}(h:bS T' w b off cs)(i:Lr g T w w')(hb:some b≠g):bS T' w' b off cs:=by obtain⟨C,fr,d,e⟩:=h;exact⟨C,fr,by rw[i.1.block b (rJ d) hb];exact d,e⟩
theorem At.lr{g:Option Nat}{T T':TypeId}{w w':World}{d:Option Addr}{cs:List Value}(h:At T' w d cs)(j:Lr g T w w')(i:T'≠T):At T' w' d cs:=λhp =>
 let ⟨b,off,e,hc⟩:=h hp;⟨b,off,e,hc.lr j i⟩
theorem Blk.lr{g:Option Nat}{T T':TypeId}{w w':World}{h:Nat}{cs:List Value}(d:Blk w h T' cs)(e:Lr g T w w')(b:some h≠g):Blk w' h T' cs:=by have:=e.1.block h d.lt b;unfold Blk at *;rw[this];exact d
theorem cO.lr{g:Option Nat}{T:TypeId}{w w':World}{v:Value}{l:List Int}(h:cO w v l)(d:Lr g T w w')(b:uT≠T):cO w' v l :=
 let ⟨ao,cap,e,h1,h2,h3⟩:=h;⟨ao,cap,e,h1,h2,h3.lr d b⟩
theorem aZ.lr{g:Option Nat}{T:TypeId}{w w':World}{neg:Bool}{m:Value}{z:Int}(h:aZ w neg m z)(d:Lr g T w w')(b:uT≠T):aZ w' neg m z :=
 let ⟨l,h1,h2⟩:=h;⟨l,h1.lr d b,h2⟩
theorem Lr.belowAt{g:Option Nat}{T:TypeId}{w w':World}(h:Lr g T w w'){B:Nat}(b:B<=w.heap.size)(hg:∀k,g=some k->B<=k):Below B w w':=(Below.refl _ _).grown h.1 b hg
theorem Lr.below{T:TypeId}{w w':World}(h:Lr none T w w'):Below w.heap.size w w':=h.belowAt (nL _) (λ_ h=>by cases h)
def lC (ops:List Oper) (n j:Nat):Nat->List Edge->Bool
 | 0,_=>false
 | f+1,es=>es.any λe=>Region.binds .any e&&(e.on==j || (match ops[e.on]? with|some o=>lC ops n j f o.after.toList|none=>false))
def oh (ops:List Oper) (k z:Nat):Bool :=
 decide (k<=ops.length) &&
 (List.range k).all (λi=>match ops[i]? with
  | some o=>o.dst.isSome&&o.after.toList.all (λe=>decide (e.on<i) || !Region.binds .any e)&&(List.range i).all (λj=>bg ops j != o.dst)
  | none=>false) &&
 (List.range (ops.length-k)).all (λd=>match ops[k+d]? with
  | some o=>o.after.toList.all (λe=>decide (e.on<k+d) || !Region.binds .any e)&&(List.range (k+d)).all (λj=>j==z || lC ops (k+d) j (ops.length+1) (o.after.toList))
  | none=>false)
abbrev Ku (ops:List Oper) (k:Nat):Bool:=oh ops k ops.length
section
variable {P:Program} {ops:List Oper} {φ:Nat->Value->World->Prop} {k z:Nat} {Q:Exit->Act->World->Prop} {a:Act} {w0:World}
theorem gQ(h:oh ops k z=true){i:Nat}(n:i<k) :
  ∃o,ops[i]?=some o/\(∃d,o.dst=some d)/\(∀e∈o.after,Region.binds .any e=true->e.on<i)/\∀j,j<i->bg ops j≠o.dst:=by
 simp only[oh,Bool.and_eq_true,List.all_eq_true,List.mem_range]at h;have:=h.1.2 i n;split at this
 ·rename_i o q;simp only[Bool.and_eq_true,List.all_eq_true,List.mem_range,bne_iff_ne]at this;obtain⟨⟨b,l⟩,m⟩:=this;refine⟨o,q,Option.isSome_iff_exists.1 b,λe he hb=>?_,λj p=>m j p⟩;have:=l e (by simpa using he);simp[hb]at this;exact this
 ·cases this
theorem qR(h:oh ops k z=true):k<=ops.length:=by simp only[oh,Bool.and_eq_true]at h;simpa using h.1.1
theorem gF{listed:Array Bool}(b:∀i o,listed.getD i false=true->ops[i]?=some o->∀e∈o.after,Region.binds .any e=true->listed.getD e.on false=true){n j:Nat} :
  ∀(f:Nat)(es:List Edge),(∀e∈es,Region.binds .any e=true->listed.getD e.on false=true)->lC ops n j f es=true->listed.getD j false=true
 | 0,_,_,h=>by simp[lC]at h
 | f+1,es,hes,h=>by
  simp only[lC,List.any_eq_true,Bool.and_eq_true,Bool.or_eq_true,beq_iff_eq]at h;obtain⟨e,he,hb,h⟩:=h;have l:=hes e he hb;rcases h with h|h
  ·rw[<-h];exact l
  ·split at h
   ·rename_i o p;exact gF b f _ (λm k d=>b e.on o l p m (by simpa using k) d) h
   ·cases h
theorem nP(h:oh ops k z=true){i:Nat}(m:k<=i)(d:i<ops.length) :
  ∃o,ops[i]?=some o/\(∀e∈o.after,Region.binds .any e=true->e.on<i)/\∀j,j<i->j≠z->lC ops i j (ops.length+1) o.after.toList=true:=by
 simp only[oh,Bool.and_eq_true,List.all_eq_true,List.mem_range]at h;have:=h.2 (i-k) oM;rw[(oM:k+(i-k)=i)]at this;split at this
 ·rename_i o l;simp only[Bool.and_eq_true,List.all_eq_true,List.mem_range]at this;refine⟨o,l,λe he hb=>?_,λj b hz=>by have:=this.2 j b;simp[hz]at this;exact this⟩;have:=this.1 e (by simpa using he);simp[hb]at this;exact this
 ·cases this
theorem yI(N:oh ops k z=true)(a1:z<k\/z=ops.length):∀(fuel i:Nat)(listed:Array Bool)(A:Act)(w:World),k<=i->i<=ops.length->listed.size=ops.length ->
  (∀j,j<i->listed.getD j false=true)->(∀j,i<=j->listed.getD j false=false)->ops.length-i<=fuel->wpList P ops.toArray Q (ops.drop i) A w ->
  wpAny P .any ops.toArray Q fuel listed A w:=by
 intro fuel
 induction fuel with
 | zero =>
  intro i listed A w H hi C l d hf h;have:i=ops.length:=oM;subst this;rw[List.drop_of_length_le (nL _)]at h;refine⟨?_,h⟩;rw[List.eq_nil_iff_forall_not_mem];intro j G;obtain⟨u,o,B,_⟩:=mem_ready.1 G
  have s:j<ops.length:=by rw[fP]at B;exact(gS.1 B).1
  rw[eZ oM,l j s]at u;cases u
 | succ fuel ih =>
  intro i listed A w H hi C l d hf h;by_cases E:i=ops.length
  ·subst E;rw[List.drop_of_length_le (nL _)]at h;refine⟨λ_=>h,λj G=>?_⟩;obtain⟨u,o,B,_⟩:=mem_ready.1 G
   have s:j<ops.length:=by rw[fP]at B;exact(gS.1 B).1
   rw[eZ oM,l j s]at u;cases u
  ·have s:i<ops.length:=oM;obtain⟨o,B,hedge,M⟩:=nP N H s
   have p:i∈Region.ready .any ops.toArray listed:=by refine mem_ready.2 ⟨by rw[eZ oM];exact d i (nL _),o,by rw[fP];exact B,λe he hb=>l _ (hedge e he hb)⟩
   refine⟨λhn=>(by rw[hn]at p;cases p),λj G=>?_⟩;obtain⟨u,oj,q,D⟩:=mem_ready.1 G;rw[fP]at q;have n:j<ops.length:=(gS.1 q).1;rw[eZ oM]at u
   have R:i<=j:=by
    rcases Nat.lt_or_ge j i with h'|h'
    ·rw[l j h']at u;cases u
    ·exact h'
   have S:j=i:=by
    rcases Nat.eq_or_lt_of_le R with h'|h'
    ·exact h'.symm
    ·exfalso;obtain⟨a2,x,L,hreach'⟩:=nP N (oM:k<=j) n
     have O:∀y Y,listed.getD y false=true->ops[y]?=some Y->∀e∈Y.after,Region.binds .any e=true->listed.getD e.on false=true:=by
      intro y Y I K e he hb
      have a0:y < i:=by
       rcases Nat.lt_or_ge y i with h''|h''
       ·exact h''
       ·rw[d y h'']at I;cases I
      apply l;by_cases W:y < k
      ·obtain⟨Z,b,_,r,_⟩:=gQ N W;rw[K]at b;cases b;have:=r e he hb;omega
      ·obtain⟨Z,b,r,_⟩:=nP N (oM:k<=y) oM;rw[K]at b;cases b;have:=r e he hb;omega
     rw[q]at x;cases x;have:=gF O _ _ (λe he hb=>D e (by simpa using he) hb) (hreach' i h' oM);rw[d i (nL _)]at this;cases this
   subst S
   have hd:ops.drop j=oj::ops.drop (j+1):=by
    rw[List.drop_eq_getElem_cons n]
    congr 1
    rw[gE n]at q;exact Option.some.inj q
   rw[hd]at h
   have F:∀A w,wpList P ops.toArray Q (ops.drop (j+1)) A w->wpAny P .any ops.toArray Q fuel (listed.setIfInBounds j true) A w:=by
    intro A w h;refine ih (j+1) _ A w oM oM (by simpa using C) ?_ ?_ oM h
    ·intro m hm;by_cases J:m=j
     ·subst J;simp[Array.getD_eq_getD_getElem?,C,n]
     ·rw[getD_set_ne _ (Ne.symm J)];exact l m oM
    ·intro m hm;rw[getD_set_ne _ oM];exact d m oM
   unfold wpOp;rw[fP,q];simp only;unfold wpList at h;split
   ·rename_i X;rw[if_pos X]at h;exact h.imp (Oper.wp_mono F) id
   ·rename_i X;rw[if_neg X]at h;exact F _ _ h
end
def H9 (ops:List Oper) (o:Oper) (A:Act) (X Y:Prop):Prop:=(Region.wanted o (yielded ops.toArray A.tmps)=true->X)/\(¬Region.wanted o (yielded ops.toArray A.tmps)=true->Y)
theorem ae{ops:List Oper}{o:Oper}{A:Act}{X Y:Prop}(hg:o.guard=none)(h:X):H9 ops o A X Y:=⟨λ_=>h,λb=>absurd (by simp[Region.wanted,hg]) b⟩
theorem BL{ops:List Oper}{o:Oper}{A:Act}{j d:Nat}{b x:Bool}(hg:o.guard=some (j,b))(hd:bg ops j=some d)(hv:A.eval (.tmp d)=.bool x):Region.wanted o (yielded ops.toArray A.tmps)=(x==b):=by
 have e:A.tmps.getD d undef=.bool x:=hv
 have:A.tmps[d]?=some (.bool x):=by
  rw[Array.getD_eq_getD_getElem?]at e
  cases hq:A.tmps[d]? with
  | none=>rw[hq]at e;simp[undef]at e
  | some y=>rw[hq]at e;simpa using e
 unfold bg at hd;simp only[Region.wanted,hg,yielded,List.getElem?_toArray,hd,Option.bind_some,this];cases x<;>cases b<;>rfl
theorem aQ{ops:List Oper}{o:Oper}{A:Act}{X Y:Prop}{j d:Nat}{b:Bool}(hg:o.guard=some (j,b))(hd:bg ops j=some d)(hv:A.eval (.tmp d)=.bool b)(h:X):H9 ops o A X Y :=
 ⟨λ_=>h,λe=>absurd (by rw[BL hg hd hv];simp) e⟩
theorem SQ{ops:List Oper}{o:Oper}{A:Act}{X Y:Prop}{j d:Nat}{b x:Bool}(hg:o.guard=some (j,b))(hd:bg ops j=some d)(hv:A.eval (.tmp d)=.bool x)(i:(x==b)=false)(h:Y):H9 ops o A X Y :=
 ⟨(λe=>by rw[BL hg hd hv,i]at e;cases e),λ_=>h⟩
def UD (fa:Nat->Tmp->Bool) (L:World->World->Prop) (pu fr:Nat->Bool) (P:Program) (ops:List Oper) (φ:Nat->Value->World->Prop) (k:Nat) (Q:Exit->Act->World->Prop) (a:Act) (w0:World) (i:Nat) (o:Oper):Prop :=
 ∀A w,(∀t,fa i t=true->A.eval (.tmp t)=a.eval (.tmp t))->L w0 w->(pu i=false->Below w0.heap.size w0 w)->pE ops φ A w o.after.toList ->
  H9 ops o A (o.wp P A w (λA' w'=>∃v,A'=A.put o.dst v/\(if pu i=true then w'=w else if fr i=true then L w w' else Below w.heap.size w w')/\φ i v w') Q) (φ i undef w)
def pW (fa:Nat->Tmp->Bool) (L:World->World->Prop) (pu fr:Nat->Bool) (P:Program) (ops:List Oper) (φ:Nat->Value->World->Prop) (k:Nat) (Q:Exit->Act->World->Prop) (a:Act) (w0:World):Nat->List Oper->Prop
 | _,[]=>True
 | i,o::r=>UD fa L pu fr P ops φ k Q a w0 i o/\pW fa L pu fr P ops φ k Q a w0 (i+1) r
theorem pW.get{b:Nat->Tmp->Bool}{L:World->World->Prop}{pu fr:Nat->Bool}{P:Program}{ops:List Oper}{φ:Nat->Value->World->Prop}{k:Nat}{Q:Exit->Act->World->Prop}{a:Act}{w0:World} :
  ∀{l:List Oper}{i j:Nat}{o:Oper},pW b L pu fr P ops φ k Q a w0 i l->l[j]?=some o->UD b L pu fr P ops φ k Q a w0 (i+j) o
 | [],_,_,_,_,h=>by simp at h
 | x::r,i,0,o,h,ho=>by simp at ho;subst ho;exact h.1
 | x::r,i,j+1,o,h,ho=>by have:=h.2.get (j:=j) (by simpa using ho);rw[(oM:i+(j+1)=i+1+j)];exact this
def vO (ops:List Oper) (k i:Nat) (t:Tmp):Bool:=(List.range k).all λj=>bg ops j != some t || (match ops[j]? with|some o=>lC ops j i (ops.length+1) o.after.toList|none=>false)
def Qc (ops:List Oper) (i:Nat) (t:Tmp):Bool:=(List.range i).all λj=>bg ops j != some t
theorem Kv{ops:List Oper}{k i:Nat}{t:Tmp}(h:vO ops k i t=true){j:Nat}(b:j<k)(hd:bg ops j=some t):∃o,ops[j]?=some o/\lC ops j i (ops.length+1) o.after.toList=true:=by
 have:=List.all_eq_true.1 h j (List.mem_range.2 b);rw[hd]at this;simp only[bne_self_eq_false,Bool.false_or]at this;split at this
 ·rename_i o d;exact⟨o,d,this⟩
 ·cases this
theorem Ou{ops:List Oper}{i:Nat}{t:Tmp}(h:Qc ops i t=true){j:Nat}(b:j<i):bg ops j≠some t:=by have:=List.all_eq_true.1 h j (List.mem_range.2 b);simpa using this
def vP (ops:List Oper) (pu fr:Nat->Bool) (k:Nat):Bool :=
 (List.range k).all λj=>!fr j || (List.range k).all λi=>pu i || i==j || (match ops[j]? with|some o=>lC ops j i (ops.length+1) o.after.toList|none=>false)
theorem BM{ops:List Oper}{pu fr:Nat->Bool}{k j i:Nat}(h:vP ops pu fr k=true)(m:j<k)(l:i<k)(hf:fr j=true)(hp:pu i=false)(e:i≠j) :
  ∃o,ops[j]?=some o/\lC ops j i (ops.length+1) o.after.toList=true:=by
 have d:=List.all_eq_true.1 h j (List.mem_range.2 m);rw[hf]at d;simp only[Bool.not_true,Bool.false_or,List.all_eq_true,List.mem_range]at d;have b:=d i l;rw[hp,Bool.false_or,Bool.or_eq_true]at b;rcases b with b|b
 ·exact absurd (by simpa using b) e
 ·split at b
  ·rename_i o n;exact⟨o,n,b⟩
  ·cases b
def Qd (w:World) (v:Value):Prop:=∃b,v=.pointer (some ⟨b,0,none⟩)/\w.heap.size<=b
def Qe (w:World) (v:Value):Prop:=∃b,v=.pointer (some ⟨b,0,none⟩)/\b<w.heap.size
theorem MG{w:World}{v u:Value}(h:Qd w v)(d:Qe w u):v≠u:=by obtain⟨b,rfl,hb⟩:=h;obtain⟨c,rfl,hc⟩:=d;intro e;cases e;omega
section
variable {L:World->World->Prop} {pu fr:Nat->Bool} {P:Program} {ops:List Oper} {φ:Nat->Value->World->Prop} {k:Nat} {Q:Exit->Act->World->Prop} {a:Act} {w0:World}
def ED (L:World->World->Prop) (pu fr:Nat->Bool) (P:Program) (ops:List Oper) (φ:Nat->Value->World->Prop) (k:Nat) (Q:Exit->Act->World->Prop) (w0:World) (D:Nat->Bool):Prop :=
 ∀i o,i<k->D i=true->ops[i]?=some o->o.guard=none/\(∀v w,L w0 w->φ i v w->Qe w v) /\
  ∀A w,L w0 w->o.wp P A w (λA' w'=>∃v,A'=A.put o.dst v/\(if pu i=true then w'=w else if fr i=true then L w w' else Below w.heap.size w w')/\φ i v w'/\Qd w v) Q
theorem Kw{z:Nat}{D:Nat->Bool}(hD:ED L pu fr P ops φ k Q w0 D)(bc:∀{w w1 w2},L w w1->L w1 w2->L w w2)(aw:∀{w w1},L w w1->L w1 w1)(b2:∀{w w'},L w0 w->Below w.heap.size w w'->L w w')(ao:vP ops pu fr k=true)(X:oh ops k z=true)(b7:∀i,i<k->∀d,bg ops i=some d->d<a.tmps.size)(ac:∀i,i<k->fr i=false->∀v w w',L w w'->φ i v w->φ i v w')(a1:pW (vO ops k) L pu fr P ops φ k Q a w0 0 (ops.take k))
  (a3:∀(fuel:Nat)(listed:Array Bool)(vs:Nat->Value)(w:World),listed.size=ops.length->(∀i o,listed.getD i false=true->ops[i]?=some o->∀e∈o.after,Region.binds .any e=true->listed.getD e.on false=true)->(∀j,j<k->j≠z->listed.getD j false=true)->(∀j,k<=j->listed.getD j false=false)->L w0 w->(∀i,i<k->listed.getD i false=true->φ i (vs i) w) ->
   (∀i j,i<k->j<k->i≠j->D i=true->D j=true->listed.getD i false=true->listed.getD j false=true->vs i≠vs j)->left ops.length listed<=fuel->wpAny P .any ops.toArray Q fuel listed (bf ops vs (λj=>listed.getD j false) k a) w) :
  ∀(fuel:Nat)(listed:Array Bool)(vs:Nat->Value)(w:World),listed.size=ops.length ->
   (∀i o,listed.getD i false=true->ops[i]?=some o->∀e∈o.after,Region.binds .any e=true->listed.getD e.on false=true) ->
   (∀j,k<=j->listed.getD j false=false)->L w0 w->((∀j,j<k->fr j=true->listed.getD j false=false)->Below w0.heap.size w0 w)->(∀i,i<k->listed.getD i false=true->φ i (vs i) w)->(∀i j,i<k->j<k->i≠j->D i=true->D j=true->listed.getD i false=true->listed.getD j false=true->vs i≠vs j)->left ops.length listed<=fuel ->
   wpAny P .any ops.toArray Q fuel listed (bf ops vs (λj=>listed.getD j false) k a) w:=by
 intro fuel
 induction fuel with
 | zero =>
  intro listed vs w I r F hb hS J Z hf;have hk:=qR X
  have bi:k=ops.length:=by
   rcases Nat.eq_or_lt_of_le hk with h|h
   ·exact h
   ·have:=uQ (by omega:left ops.length listed=0) (i:=k) h;rw[eZ oM,F k (nL _)]at this;cases this
  have C:∀j,j<k->listed.getD j false=true:=λj l=>by have:=uQ (by omega:left ops.length listed=0) (i:=j) oM;rwa[eZ oM]at this
  exact a3 0 listed vs w I r (λj l _=>C j l) F hb J Z hf
 | succ fuel ih =>
  intro listed vs w I r F hb hS J Z hf;have hk:=qR X;by_cases C:∀j,j<k->j≠z->listed.getD j false=true
  ·exact a3 (fuel+1) listed vs w I r C F hb J Z hf
  ·have hex:∃j,j<k/\listed.getD j false=false:=by
    apply Classical.byContradiction;intro O;apply C;intro j l _;cases hq:listed.getD j false
    ·exact absurd ⟨j,l,hq⟩ O
    ·rfl
   -- the least that has not come up is ready
   have a0:∃j,j∈Region.ready .any ops.toArray listed:=by
    have bd:∀n,∀j,j<=n->j<k->listed.getD j false=false->∃j,j∈Region.ready .any ops.toArray listed:=by
     intro n
     induction n with
     | zero =>
      intro j l aa ab;obtain⟨o,K,_,R,_⟩:=gQ X aa;refine⟨j,mem_ready.2 ⟨by rw[eZ oM];exact ab,o,by rw[fP];exact K,λe he b=>?_⟩⟩;have:=R e he b;omega
     | succ n bh =>
      intro j l aa ab;obtain⟨o,K,_,R,_⟩:=gQ X aa;by_cases hp:∀e∈o.after,Region.binds .any e=true->listed.getD e.on false=true
      ·exact⟨j,mem_ready.2 ⟨by rw[eZ oM];exact ab,o,by rw[fP];exact K,hp⟩⟩
      ·have:∃e,e∈o.after/\Region.binds .any e=true/\listed.getD e.on false=false:=by
        apply Classical.byContradiction;intro O;apply hp;intro e he b;cases hq:listed.getD e.on false
        ·exact absurd ⟨e,he,b,hq⟩ O
        ·rfl
       obtain⟨e,he,b,hq⟩:=this;have:=R e he b;exact bh e.on oM oM hq
    obtain⟨j,l,G⟩:=hex;exact bd j j (nL _) l G
   refine⟨λhn=>(by obtain⟨j,l⟩:=a0;rw[hn]at l;cases l),λi hi=>?_⟩;obtain⟨h0,o,K,hpre⟩:=mem_ready.1 hi;rw[fP]at K;have S:i<ops.length:=(gS.1 K).1;rw[eZ oM]at h0
   have E:i<k:=by
    rcases Nat.lt_or_ge i k with h|h
    ·exact h
    ·exfalso;obtain⟨o',B,_,hreach⟩:=nP X h S;rw[K]at B;cases B;apply C;intro j l b8;exact gF r _ _ (λe he b=>hpre e (by simpa using he) b) (hreach j oM b8)
   obtain⟨o',B,⟨d,hd⟩,R,a9⟩:=gQ X E;rw[K]at B;cases B;have ax:=a1.get (j:=i) (o:=o) (by rw[List.getElem?_take,if_pos E];exact K);rw[Nat.zero_add]at ax;have a8:bg ops i=o.dst:=by simp[bg,K]
   have b4:∀j,j<k->j≠i->bg ops i≠none->bg ops j≠bg ops i:=by
    intro j l q _;rcases Nat.lt_or_ge j i with h|h
    ·rw[a8];exact a9 j h
    ·obtain⟨o2,ad,_,_,u⟩:=gQ X l;have:=u i oM;have e2:bg ops j=o2.dst:=by simp[bg,ad]
     rw[e2];exact λh=>this h.symm
   have b3:pu i=false->Below w0.heap.size w0 w:=λhp=>hS λj l N=>by
    cases G:listed.getD j false with
    | false=>rfl
    | true =>
     exfalso;by_cases q:i=j
     ·subst q;rw[h0]at G;cases G
     ·obtain⟨oj,H,hr⟩:=BM ao l E N hp q;have:=gF r _ _ (λe he b=>r j oj G H e (by simpa using he) b) hr;rw[h0]at this;cases this
   have a4:=ax (bf ops vs (λj=>listed.getD j false) k a) w (λt ht=>nN k (λj l G hd=>by
    obtain⟨oj,H,hr⟩:=Kv ht l hd;have:=gF r _ _ (λe he b=>r j oj G H e (by simpa using he) b) hr
    rw[h0]at this;cases this)) hb b3 (by
    have:∀es:List Edge,(∀e∈es,Region.binds .any e=true->e.on<i/\listed.getD e.on false=true)->pE ops φ (bf ops vs (λj=>listed.getD j false) k a) w es:=by
     intro es
     induction es with
     | nil=>intro _;trivial
     | cons e es be =>
      intro h;refine⟨λb=>?_,be (λe' b5=>h e' (by simp[b5]))⟩;obtain⟨bj,G⟩:=h e sM b;obtain⟨oe,ba,⟨de,an⟩,_,Y⟩:=gQ X (oM:e.on<k);have e1:bg ops e.on=some de:=by simp[bg,ba,an]
      rw[e1];simp only[Option.getD_some];rw[rP e1 (λj l q=>?_) G (b7 e.on oM de e1) k oM (nL _)]
      ·exact J e.on oM G
      ·intro hc;rcases Nat.lt_or_ge j e.on with hje|hje
       ·exact Y j hje (by rw[hc,an])
       ·obtain⟨o2,ad,_,_,u⟩:=gQ X l;exact u e.on oM (by rw[e1,<-hc];simp[bg,ad])
    exact this _ (λe he b=>⟨R e (by simpa using he) b,hpre e (by simpa using he) b⟩))
   suffices W:∀(v:Value)(w':World),(if pu i=true then w'=w else if fr i=true then L w w' else Below w.heap.size w w')->φ i v w'->(D i=true->Qd w v) ->
     wpAny P .any ops.toArray Q fuel (listed.setIfInBounds i true) ((bf ops vs (λj=>listed.getD j false) k a).put o.dst v) w' by
    unfold wpOp;rw[fP,K];simp only;split
    ·rename_i hw;left;by_cases al:D i=true
     ·refine Oper.wp_mono ?_ ((hD i o E al K).2.2 _ w hb);rintro A' w' ⟨v,rfl,M,s,hn⟩;exact W v w' M s λ_=>hn
     ·refine Oper.wp_mono ?_ (a4.1 hw);rintro A' w' ⟨v,rfl,M,s⟩;exact W v w' M s λh=>absurd h al
    ·rename_i hw;have h2:=a4.2 hw;refine W undef w ?_ h2 λh=>absurd (by simp[Region.wanted,(hD i o E h K).1]) hw;split
     ·rfl
     ·split
      ·exact aw hb
      ·exact Below.refl _ _
   intro v w' m s hnew
   have M:L w w':=by
    split at m
    ·rw[m];exact aw hb
    ·split at m
     ·exact m
     ·exact b2 hb m
   have ar:listed.getD i false=false:=h0;have av:=rO (a:=a) (vs:=vs) (v:=v) (p:=λj=>listed.getD j false) ar b4 ⟨d,by rw[a8,hd]⟩ k E (nL _);rw[<-a8,<-av]
   have bb:bf ops (λj=>if j=i then v else vs j) (λj=>listed.getD j false || j==i) k a=bf ops (λj=>if j=i then v else vs j) (λj=>(listed.setIfInBounds i true).getD j false) k a:=by
    refine gp k (λj l=>?_) (λj _ _=>rfl);by_cases q:j=i
    ·subst q;simp[Array.getD_eq_getD_getElem?,I,S]
    ·rw[getD_set_ne _ (Ne.symm q)];have:(j==i)=false:=by simpa using q
     rw[this,Bool.or_false]
   rw[bb]
   have hset:∀j,(listed.setIfInBounds i true).getD j false=true->j=i\/listed.getD j false=true:=λj l=>by
    by_cases q:j=i
    ·exact .inl q
    ·rw[getD_set_ne _ (Ne.symm q)]at l;exact .inr l
   refine ih _ _ _ (by simpa using I) ?_ ?_ (bc hb M) ?_ ?_ ?_ ?_
   ·intro i' o' b9 B e he b;rcases hset i' b9 with h|h
    ·subst h;rw[K]at B;cases B;exact getD_set_true (hpre e he b)
    ·exact getD_set_true (r i' o' h B e he b)
   ·intro j l;rw[getD_set_ne _ oM];exact F j l
   ·intro O
    have au:∀j,j<k->fr j=true->listed.getD j false=false:=λj l N=>by
     have:=O j l N
     cases G:listed.getD j false with
     | false=>rfl
     | true=>rw[getD_set_true G]at this;cases this
    have b6:fr i=false:=by
     cases hf':fr i with
     | false=>rfl
     | true =>
      have:=O i E hf';simp[Array.getD_eq_getD_getElem?,I,S]at this
    have a7:=hS au;by_cases hp:pu i=true
    ·rw[if_pos hp]at m;rw[m];exact a7
    ·rw[if_neg hp,if_neg (by rw[b6];simp)]at m;exact a7.trans (m.mono a7.size)
   ·intro j l G;rcases hset j G with h|h
    ·subst h;simpa using s
    ·by_cases q:j=i
     ·subst q;simpa using s
     ·simp only[if_neg q];by_cases hp:pu i=true
      ·rw[if_pos hp]at m;rw[m];exact J j l h
      ·cases N:fr j with
       | false=>exact ac j l N _ _ _ M (J j l h)
       | true =>
        exfalso;have:=BM ao l E N (by simpa using hp) (Ne.symm q);obtain⟨oj,H,hr⟩:=this;have:=gF r _ _ (λe he b=>r j oj h H e (by simpa using he) b) hr;rw[ar]at this;cases this
   ·intro x y hx hy ay a5 a6 ap aq
    have hold:∀j,j<k->D j=true->listed.getD j false=true->Qe w (vs j):=λj l b0 G=>by obtain⟨oj,H,-⟩:=gQ X l;exact(hD j oj l b0 H).2.1 _ _ hb (J j l G)
    by_cases a2:x=i
    ·subst a2;have aE:¬y=x:=λh=>ay h.symm;rw[if_pos rfl,if_neg aE];exact MG (hnew a5) (hold y hy a6 ((hset y aq).resolve_left aE))
    ·rw[if_neg a2];by_cases ag:y=i
     ·subst ag;rw[if_pos rfl];exact(MG (hnew a6) (hold x hx a5 ((hset x ap).resolve_left a2))).symm
     ·rw[if_neg ag];exact Z x y hx hy ay a5 a6 ((hset x ap).resolve_left a2) ((hset y aq).resolve_left ag)
   ·have:=BJ I (i:=i) (by rw[eZ oM];exact h0);omega
theorem Ky{listed:Array Bool}(p:k<=ops.length)(o:listed.size=ops.length)(b:∀j,k<=j->listed.getD j false=false):ops.length-k<=left ops.length listed:=by
 unfold left
 have d:((List.range' k (ops.length-k))).Sublist ((List.range ops.length).filter λi=>!listed.getD i true):=by
  have e:(List.range' k (ops.length-k)).filter (λi=>!listed.getD i true)=List.range' k (ops.length-k):=by rw[List.filter_eq_self];intro j l;simp only[List.mem_range'_1]at l;rw[eZ oM,b j oM];rfl
  rw[<-e];apply List.Sublist.filter;rw[List.range_eq_range']
  have h:List.range' 0 ops.length=List.range' 0 k++List.range' k (ops.length-k):=by have:=List.range'_append (s:=0) (m:=k) (n:=ops.length-k) (step:=1);simp only[Nat.one_mul,Nat.zero_add]at this;rw[this];congr 1;omega
  rw[h];exact List.sublist_append_right _ _
 simpa using d.length_le
theorem qU{id z:Nat}{D:Nat->Bool}(hD:ED L pu fr P ops φ k Q w0 D)(hm:P.follows .mixedOrders=true)(x:∀{w w1 w2},L w w1->L w1 w2->L w w2)(u:∀{w w1},L w w1->L w1 w1)(q:∀{w w'},L w0 w->Below w.heap.size w w'->L w w')(r:vP ops pu fr k=true)(B:oh ops k z=true)(h00:L w0 { w0 with drawn:=w0.drawn+1 })
  (s:((List.range k).all λi=>match bg ops i with|some d=>decide (d<a.tmps.size)|none=>true)=true)
  (l:∀i,i<k->fr i=false->∀v w w',L w w'->φ i v w->φ i v w') (b:pW (vO ops k) L pu fr P ops φ k Q a w0 0 (ops.take k))
  (m:∀(fuel:Nat)(listed:Array Bool)(vs:Nat->Value)(w:World),listed.size=ops.length->(∀i o,listed.getD i false=true->ops[i]?=some o->∀e∈o.after,Region.binds .any e=true->listed.getD e.on false=true)->(∀j,j<k->j≠z->listed.getD j false=true)->(∀j,k<=j->listed.getD j false=false)->L w0 w->(∀i,i<k->listed.getD i false=true->φ i (vs i) w) ->
   (∀i j,i<k->j<k->i≠j->D i=true->D j=true->listed.getD i false=true->listed.getD j false=true->vs i≠vs j)->left ops.length listed<=fuel->wpAny P .any ops.toArray Q fuel listed (bf ops vs (λj=>listed.getD j false) k a) w) :
  (Code.region id ops.toArray true).wp P Q a w0:=by
 refine wp_region_any hm ?_
 have p:∀i,i<k->∀d,bg ops i=some d->d<a.tmps.size:=λi y d hd=>by have:=List.all_eq_true.1 s i (List.mem_range.2 y);rw[hd]at this;simpa using this
 have h0:∀j,(Array.replicate ops.length false).getD j false=false:=λj=>by simp[Array.getD_eq_getD_getElem?,Array.getElem?_replicate];split<;>rfl
 have:=Kw (L:=L) (P:=P) (Q:=Q) (w0:=w0) hD x u q r B p l b m ops.length (Array.replicate ops.length false) (λ_=>undef) { w0 with drawn:=w0.drawn+1 } sM
  (λi o h=>by rw[h0]at h;cases h) (λj _=>h0 j) h00 (λ_=>⟨rfl,rfl,rfl,nL _,λ_ _=>rfl⟩) (λi _ h=>by rw[h0]at h;cases h) (λi _ _ _ _ _ _ h=>by rw[h0]at h;cases h)
  (by unfold left;exact Nat.le_trans (List.length_filter_le _ _) sM)
 have e:bf ops (λ_=>undef) (λj=>(Array.replicate ops.length false).getD j false) k a=a:=by
  have:∀n,bf ops (λ_=>undef) (λj=>(Array.replicate ops.length false).getD j false) n a=a:=by
   intro n
   induction n with
   | zero=>rfl
   | succ n C=>unfold bf;rw[h0,C];rfl
  exact this k
 rw[e]at this;simpa using this
theorem yJ{id:Nat}{D:Nat->Bool}(I:ED L pu fr P ops φ k Q w0 D)(hm:P.follows .mixedOrders=true)(E:∀{w w1 w2},L w w1->L w1 w2->L w w2)(B:∀{w w1},L w w1->L w1 w1)(s:∀{w w'},L w0 w->Below w.heap.size w w'->L w w')(x:vP ops pu fr k=true)(C:Ku ops k=true)(r:L w0 { w0 with drawn:=w0.drawn+1 })
  (z:((List.range k).all λi=>match bg ops i with|some d=>decide (d<a.tmps.size)|none=>true)=true)
  (m:∀i,i<k->fr i=false->∀v w w',L w w'->φ i v w->φ i v w') (b:pW (vO ops k) L pu fr P ops φ k Q a w0 0 (ops.take k))
  (n:∀vs w',L w0 w'->vJ φ vs w' k->(∀i j,i<k->j<k->i≠j->D i=true->D j=true->vs i≠vs j)->wpList P ops.toArray Q (ops.drop k) (bf ops vs (λ_=>true) k a) w') :
  (Code.region id ops.toArray true).wp P Q a w0:=by
 have G:=qR C;refine qU I hm E B s x C r z m b λfuel listed vs w q _ l e hb F u hf=>?_;have hall:∀j,j<k->listed.getD j false=true:=λj o=>l j o oM;refine yI C (.inr rfl) _ k listed _ w (nL _) G q hall e (Nat.le_trans (Ky G q e) hf) ?_;have:=n vs w hb (tY k (λi p=>F i p (hall i p))) λi j p o y h H=>u i j p o y h H (hall i p) (hall j o);rwa[gp (vs':=vs) (p':=λj=>listed.getD j false) k (λj o=>(hall j o).symm) (λj _ _=>rfl)]at this
end
structure af (L:World->World->Prop) where
 eqv:Option Value
 frag:Bool
 pure':Bool
 p:Value->World->Prop
 mono:frag=false->∀v w w',L w w'->p v w->p v w'
 is:∀c,eqv=some c->∀v w,p v w->v=c
namespace af
variable {L:World->World->Prop}
def of (p:Value->World->Prop) (mono:∀v w w',L w w'->p v w->p v w'):af L:=⟨none,false,false,p,λ_=>mono,λ_ h=>by cases h⟩
def eq (c:Value):af L:=⟨some c,false,true,λv _=>v=c,λ_ _ _ _ _ h=>h,λc' h v w hv=>by cases h;exact hv⟩
def ret (c:Value):af L:=⟨some c,false,false,λv _=>v=c,λ_ _ _ _ _ h=>h,λc' h v w hv=>by cases h;exact hv⟩
def pu (p:Value->World->Prop) (mono:∀v w w',L w w'->p v w->p v w'):af L:=⟨none,false,true,p,λ_=>mono,λ_ h=>by cases h⟩
def fragile (p:Value->World->Prop):af L:=⟨none,true,false,p,(λh=>by cases h),(λ_ h=>by cases h)⟩
def any:af L:=of (λ_ _=>True) (λ_ _ _ _ h=>h)
def asPure (f:af L):af L:={ f with pure':=true }
end af
def qD {L:World->World->Prop} (fs:List (af L)) (i:Nat) (v:Value) (w:World):Prop:=(fs.getD i .any).p v w
def PK {L:World->World->Prop} (fs:List (af L)) (i:Nat):Bool:=(fs.getD i .any).pure'
def PL {L:World->World->Prop} (fs:List (af L)) (i:Nat):Bool:=(fs.getD i .any).frag
def aT {L:World->World->Prop} (P:Program) (ops:Array Oper) (Q:Exit->Act->World->Prop) (rest:List Oper) (w':World):List (af L)->List Tmp->Act->Prop
 | f::fs,d::ds,a=>match f.eqv with
  | some c=>aT P ops Q rest w' fs ds (a.put (some d) c)
  | none=>∀v,f.p v w'->aT P ops Q rest w' fs ds (a.put (some d) v)
 | _,_,a=>wpList P ops Q rest a w'
theorem yK{L:World->World->Prop}{P:Program}{ops:List Oper}{k:Array Oper}{Q:Exit->Act->World->Prop}{rest:List Oper}{w':World}{vs:Nat->Value}{a:Act} :
  ∀(l:List (af L))(b:List Tmp)(i:Nat),l.length=b.length->(∀j (f:af L),l[j]?=some f->f.p (vs (i+j)) w')->(∀j (d:Tmp),b[j]?=some d->bg ops (i+j)=some d) ->
   aT P k Q rest w' l b (bf ops vs (λ_=>true) i a)->wpList P k Q rest (bf ops vs (λ_=>true) (i+b.length) a) w'
 | [],[],i,_,_,_,h=>h
 | f::l,d::b,i,hl,hf,hd,h=>by
  have n:=hf 0 f rfl
  have q:aT P k Q rest w' l b ((bf ops vs (λ_=>true) i a).put (some d) (vs i)):=by
   unfold aT at h;split at h
   ·rename_i c hc;have:=f.is c hc _ _ n;rw[Nat.add_zero]at this;rw[this];exact h
   ·exact h _ n
  have e:bf ops vs (λ_=>true) (i+1) a=(bf ops vs (λ_=>true) i a).put (some d) (vs i):=by simp only[bf,if_true,show bg ops i=some d from hd 0 d rfl]
  have:=yK l b (i+1) (by simpa using hl) (λj o m=>by rw[(oM:i+1+j=i+(j+1))];exact hf (j+1) o (by simpa using m))
   (λj d' m=>by rw[(oM:i+1+j=i+(j+1))];exact hd (j+1) d' (by simpa using m)) (by rw[e];exact q)
  rw[show i+(d::b).length=i+1+b.length by simp;omega];exact this
 | [],_::_,_,h,_,_,_=>by simp at h
 | _::_,[],_,h,_,_,_=>by simp at h
def af.pin {L:World->World->Prop} (f:af L) (c:Value):af L:=⟨none,f.frag,f.pure',λv w=>f.p v w/\v=c,λhf v w w' hl h=>⟨f.mono hf v w w' hl h.1,h.2⟩,λ_ h=>by cases h⟩
def uf {L:World->World->Prop} (D:Nat->Bool) (vs:Nat->Value):Nat->List (af L)->List (af L)
 | _,[]=>[]
 | i,f::r=>(bif D i then f.pin (vs i)else f)::uf D vs (i+1) r
theorem Ia{L:World->World->Prop}{D:Nat->Bool}{vs:Nat->Value}{w:World}:∀(k:List (af L))(i:Nat),(∀j (f:af L),k[j]?=some f->f.p (vs (i+j)) w)->∀j (f:af L),(uf D vs i k)[j]?=some f->f.p (vs (i+j)) w
 | f::r,i,h,0,f',e=>by
  simp only[uf,List.getElem?_cons_zero,sJ]at e;subst e;have l:=h 0 f rfl
  cases hd:D i with
  | true=>exact⟨l,rfl⟩
  | false=>exact l
 | f::r,i,h,j+1,f',e=>by simp only[uf,List.getElem?_cons_succ]at e;have:=Ia r (i+1) (λd b m=>by rw[(oM:i+1+d=i+(d+1))];exact h (d+1) b m) j f' e;rwa[(oM:i+1+j=i+(j+1))]at this
theorem xe{L:World->World->Prop}{D:Nat->Bool}{vs:Nat->Value}:∀(b:List (af L))(i:Nat),(uf D vs i b).length=b.length
 | [],_=>rfl
 | _::r,i=>by simp only[uf,List.length_cons,xe r (i+1)]
theorem F9{P:Program}{ops:List Oper}{Q:Exit->Act->World->Prop}{a:Act}{w0:World}{id:Nat}(hm:P.follows .mixedOrders=true)(g:Option Nat)(T:TypeId)(q:fK g T w0)(b:List (af (Lr g T)))(e:List Tmp)(D:Nat->Bool)
  (E:ED (Lr g T) (PK b) (PL b) P ops (qD b) b.length Q w0 D)
  (C:Ku ops b.length=true) (x:vP ops (PK b) (PL b) b.length=true) (p:((ops.take b.length).map (·.dst))=e.map some) (y:e.all (λd=>decide (d<a.tmps.size))=true)
  (k:pW (vO ops b.length) (Lr g T) (PK b) (PL b) P ops (qD b) b.length Q a w0 0 (ops.take b.length))
  (htail:∀w' vs,Lr g T w0 w'->(∀i j,i<b.length->j<b.length->i≠j->D i=true->D j=true->vs i≠vs j)->aT P ops.toArray Q (ops.drop b.length) w' (uf D vs 0 b) e a) :
  (Code.region id ops.toArray true).wp P Q a w0:=by
 have kQ:=qR C
 have m:e.length=b.length:=by have:=congrArg List.length p;simp only[List.length_map,List.length_take]at this;omega
 have l:∀i d,e[i]?=some d->bg ops i=some d:=λi d hd=>by
  have n:i<e.length:=(gS.1 hd).1;have:((ops.take b.length).map (·.dst))[i]?=(e.map some)[i]?:=by rw[p]
  rw[List.getElem?_map,List.getElem?_map,hd,List.getElem?_take,if_pos oM]at this;unfold bg
  cases ho:ops[i]? with
  | none=>rw[ho]at this;cases this
  | some o=>rw[ho]at this;simpa using this
 refine yJ E hm (λh s=>h.trans s) (λh=>h.refl') (λh s=>(q.lr h).below s) x C ?_ ?_ ?_ k ?_
 ·exact q.below ⟨rfl,rfl,rfl,nL _,λ_ _=>rfl⟩
 ·rw[List.all_eq_true];intro i B;have F:=List.mem_range.1 B;have n:i<e.length:=oM;rw[l i e[i] (gE n)];exact List.all_eq_true.1 y _ (List.getElem_mem n)
 ·intro i B hf v w w' hb h;exact(b.getD i .any).mono hf v w w' hb h
 ·intro vs w' hb hf u
  have:=yK (vs:=vs) (a:=a) (w':=w') (uf D vs 0 b) e 0 ((xe b 0).trans m.symm) (Ia b 0 λj f r=>by
   have z:j<b.length:=(gS.1 r).1;have:=uR _ j hf z;unfold qD at this;rw[jD,r]at this
   simpa using this) (λj d r=>by rw[Nat.zero_add];exact l j d r) (htail w' vs hb u)
  rw[Nat.zero_add,m]at this;exact this
theorem EE{L:World->World->Prop}{vs:Nat->Value}:∀(b:List (af L))(i:Nat),uf (λ_=>false) vs i b=b
 | [],_=>rfl
 | _::r,i=>by simp only[uf,cond_false,EE r (i+1)]
theorem aC{P:Program}{ops:List Oper}{Q:Exit->Act->World->Prop}{a:Act}{w0:World}{id:Nat}(hm:P.follows .mixedOrders=true)(g:Option Nat)(T:TypeId)(n:fK g T w0)(b:List (af (Lr g T)))(j:List Tmp)
  (o:Ku ops b.length=true) (l:vP ops (PK b) (PL b) b.length=true) (k:((ops.take b.length).map (·.dst))=j.map some) (m:j.all (λd=>decide (d<a.tmps.size))=true)
  (e:pW (vO ops b.length) (Lr g T) (PK b) (PL b) P ops (qD b) b.length Q a w0 0 (ops.take b.length))
  (i:∀w',Lr g T w0 w'->aT P ops.toArray Q (ops.drop b.length) w' b j a) :
  (Code.region id ops.toArray true).wp P Q a w0 :=
 F9 hm g T n b j (λ_=>false) (λ_ _ _ h=>by cases h) o l k m e λw' vs hb _=>by rw[EE];exact i w' hb
def yL (ops:List Oper) (k:Nat):Bool :=
 decide (k<=ops.length) &&
 (List.range k).all (λi=>match ops[i]? with
  | some o=>o.dst.isSome&&o.after.toList.all (λe=>decide (e.on<i) || !Region.binds .any e)&&(List.range i).all (λj=>bg ops j != o.dst)
  | none=>false)
theorem ug{ops:List Oper}{k:Nat}(h:yL ops k=true){i:Nat}(n:i<k) :
  ∃o,ops[i]?=some o/\(∃d,o.dst=some d)/\(∀e∈o.after,Region.binds .any e=true->e.on<i)/\∀j,j<i->bg ops j≠o.dst:=by
 simp only[yL,Bool.and_eq_true,List.all_eq_true,List.mem_range]at h;have:=h.2 i n;split at this
 ·rename_i o q;simp only[Bool.and_eq_true,List.all_eq_true,List.mem_range,bne_iff_ne]at this;obtain⟨⟨b,l⟩,m⟩:=this;refine⟨o,q,Option.isSome_iff_exists.1 b,λe he hb=>?_,λj p=>m j p⟩;have:=l e (by simpa using he);simp[hb]at this;exact this
 ·cases this
theorem Ov{ops:List Oper}{k:Nat}(h:yL ops k=true):k<=ops.length:=by simp only[yL,Bool.and_eq_true]at h;simpa using h.1
def Qf (pu fr:Nat->Bool) (k:Nat):Bool:=(List.range k).all λj=>!fr j || (List.range k).all λi=>decide (i<=j) || pu i
theorem EF{pu fr:Nat->Bool}{k j i:Nat}(h:Qf pu fr k=true)(l:j<k)(e:i<k)(hf:fr j=true)(hp:pu i=false):i<=j:=by have b:=List.all_eq_true.1 h j (List.mem_range.2 l);rw[hf]at b;simp only[Bool.not_true,Bool.false_or,List.all_eq_true,List.mem_range]at b;have d:=b i e;rw[hp,Bool.or_false]at d;simpa using d
theorem EG{L:World->World->Prop}{pu fr:Nat->Bool}{P:Program}{ops:List Oper}{φ:Nat->Value->World->Prop}{k:Nat}{Q:Exit->Act->World->Prop}{a:Act}{w0:World}
  (W:∀{w w1 w2},L w w1->L w1 w2->L w w2) (F:∀{w w1},L w w1->L w1 w1) (H:∀{w w'},L w0 w->Below w.heap.size w w'->L w w') (D:Qf pu fr k=true) (X:yL ops k=true) (K:∀i,i<k->∀d,bg ops i=some d->d<a.tmps.size)
  (m:∀i,i<k->fr i=false->∀v w w',L w w'->φ i v w->φ i v w') (l:pW (Qc ops) L pu fr P ops φ k Q a w0 0 (ops.take k))
  (p:∀vs w',L w0 w'->vJ φ vs w' k->wpList P ops.toArray Q (ops.drop k) (bf ops vs (λ_=>true) k a) w') :
  ∀(n i:Nat)(vs:Nat->Value)(w:World),i+n=k->L w0 w->((∀j,j<i->fr j=false)->Below w0.heap.size w0 w)->(∀j,j<i->φ j (vs j) w)->wpList P ops.toArray Q (ops.drop i) (bf ops vs (λ_=>true) i a) w
 | 0,i,vs,w,hi,hL,_,hf=>by have:i=k:=oM;subst this;exact p vs w hL (tY i hf)
 | n+1,i,vs,w,hi,hL,hS,hf=>by
  have x:i<k:=oM;obtain⟨o,R,⟨d,hd⟩,a2,a0⟩:=ug X x;have J:i<ops.length:=(gS.1 R).1
  have nY:ops.drop i=o::ops.drop (i+1):=by
   rw[List.drop_eq_getElem_cons J]
   congr 1
   rw[gE J]at R;exact Option.some.inj R
  have S:=l.get (j:=i) (o:=o) (by rw[List.getElem?_take,if_pos x];exact R);rw[Nat.zero_add]at S;have Z:bg ops i=o.dst:=by simp[bg,R]
  have z:=S (bf ops vs (λ_=>true) i a) w (λt ht=>nN i (λj G _=>Ou ht G)) hL (λhp=>hS λj G=>by
   cases hfj:fr j with
   | false=>rfl
   | true=>have:=EF D (oM:j<k) x hfj hp;omega) (by
   have:∀es:List Edge,(∀e∈es,Region.binds .any e=true->e.on<i)->pE ops φ (bf ops vs (λ_=>true) i a) w es:=by
    intro es
    induction es with
    | nil=>intro _;trivial
    | cons e es a6 =>
     intro h;refine⟨λC=>?_,a6 (λe' a1=>h e' (by simp[a1]))⟩;have N:=h e sM C;obtain⟨oe,a5,⟨de,I⟩,_,u⟩:=ug X (oM:e.on<k);have e1:bg ops e.on=some de:=by simp[bg,a5,I]
     rw[e1];simp only[Option.getD_some];rw[rP (k:=i) e1 (λj G E=>?_) rfl (K e.on oM de e1) i N (nL _)]
     ·exact hf e.on N
     ·intro hc;rcases Nat.lt_or_ge j e.on with hje|hje
      ·exact u j hje (by rw[hc,I])
      ·obtain⟨o2,a4,_,_,s⟩:=ug X (oM:j<k);exact s e.on oM (by rw[e1,<-hc];simp[bg,a4])
   exact this _ (λe he C=>a2 e (by simpa using he) C))
  have y:∀(v:Value)(w':World),(if pu i=true then w'=w else if fr i=true then L w w' else Below w.heap.size w w')->φ i v w'->wpList P ops.toArray Q (ops.drop (i+1)) ((bf ops vs (λ_=>true) i a).put o.dst v) w':=by
   intro v w' b q
   have r:L w w':=by
    split at b
    ·rw[b];exact F hL
    ·split at b
     ·exact b
     ·exact H hL b
   have e:(bf ops vs (λ_=>true) i a).put o.dst v=bf ops (λj=>if j=i then v else vs j) (λ_=>true) (i+1) a:=by
    simp only[bf,if_true,Z]
    congr 1
    exact gp i (λ_ _=>rfl) (λj G _=>by rw[if_neg oM])
   rw[e];refine EG (L:=L) (φ:=φ) (w0:=w0) W F H D X K m l p n (i+1) _ w' oM (W hL r) ?hSS λj G=>?_
   case hSS =>
    intro O;have B:=hS λj G=>O j oM;have a3:=O i oM;by_cases hp:pu i=true
    ·rw[if_pos hp]at b;rw[b];exact B
    ·rw[if_neg hp,if_neg (by rw[a3];simp)]at b;exact B.trans (b.mono B.size)
   by_cases E:j=i
   ·subst E;simpa using q
   ·simp only[if_neg E];have M:=hf j oM;by_cases hp:pu i=true
    ·rw[if_pos hp]at b;rw[b];exact M
    ·cases hfj:fr j with
     | false=>exact m j oM hfj _ _ _ r M
     | true =>
      exfalso;have:=EF D (oM:j<k) x hfj (by simpa using hp);omega
  rw[nY];unfold wpList;by_cases Y:Region.wanted o (yielded ops.toArray (bf ops vs (λ_=>true) i a).tmps)=true
  ·rw[if_pos Y];left;refine Oper.wp_mono ?_ (z.1 Y);rintro A' w' ⟨v,rfl,r,q⟩;exact y v w' r q
  ·rw[if_neg Y];refine y undef w ?_ (z.2 Y);split
   ·rfl
   ·split
    ·exact F hL
    ·exact Below.refl _ _
theorem aR{P:Program}{ops:List Oper}{Q:Exit->Act->World->Prop}{a:Act}{w0:World}{id:Nat}(C:True)(g:Option Nat)(T:TypeId)(s:fK g T w0)(b:List (af (Lr g T)))(k:List Tmp)
  (B:yL ops b.length=true) (x:Qf (PK b) (PL b) b.length=true) (q:((ops.take b.length).map (·.dst))=k.map some) (y:k.all (λd=>decide (d<a.tmps.size))=true)
  (l:pW (Qc ops) (Lr g T) (PK b) (PL b) P ops (qD b) b.length Q a w0 0 (ops.take b.length))
  (htail:∀w',Lr g T w0 w'->aT P ops.toArray Q (ops.drop b.length) w' b k a) :
  (Code.region id ops.toArray false).wp P Q a w0:=by
 have kQ:=Ov B
 have n:k.length=b.length:=by have:=congrArg List.length q;simp only[List.length_map,List.length_take]at this;omega
 have m:∀i d,k[i]?=some d->bg ops i=some d:=λi d hd=>by
  have p:i<k.length:=(gS.1 hd).1;have:((ops.take b.length).map (·.dst))[i]?=(k.map some)[i]?:=by rw[q]
  rw[List.getElem?_map,List.getElem?_map,hd,List.getElem?_take,if_pos oM]at this;unfold bg
  cases ho:ops[i]? with
  | none=>rw[ho]at this;cases this
  | some o=>rw[ho]at this;simpa using this
 refine wp_region_lit ?_;have:=EG (L:=Lr g T) (P:=P) (Q:=Q) (a:=a) (w0:=w0) (λh u=>h.trans u) (λh=>h.refl') (λh u=>(s.lr h).below u) x B ?_ ?_ l ?_ b.length 0 (λ_=>undef) w0 oM s.refl (λ_=>Below.refl _ _) (λj r=>oM)
 ·simpa[bf]using this
 ·intro i D d hd;have p:i<k.length:=oM;have h1:=m i k[i] (gE p);rw[hd]at h1;have:=List.all_eq_true.1 y _ (List.getElem_mem p);cases h1;simpa using this
 ·intro i D hf v w w' hb h;exact(b.getD i .any).mono hf v w w' hb h
 ·intro vs w' hb hf
  have:=yK (vs:=vs) (a:=a) (w':=w') b k 0 n.symm (λj f r=>by
   have z:j<b.length:=(gS.1 r).1;have:=uR _ j hf z;unfold qD at this;rw[jD,r]at this
   simpa using this) (λj d r=>by rw[Nat.zero_add];exact m j d r) (htail w' hb)
  rw[Nat.zero_add,n]at this;exact this
section
variable {g:Option Nat} {T:TypeId} {w0 w w':World} {P:Program} {ops:List Oper} {o:Oper} {A:Act} {i:Nat} {pu fr:Nat->Bool} {φ:Nat->Value->World->Prop} {Q:Exit->Act->World->Prop} {c:Value}
abbrev jW (L:World->World->Prop) (pu fr:Nat->Bool) (φ:Nat->Value->World->Prop) (o:Oper) (i:Nat) (A:Act) (w:World) (A':Act) (w':World):Prop :=
 ∃v,A'=A.put o.dst v/\(if pu i=true then w'=w else if fr i=true then L w w' else Below w.heap.size w w')/\φ i v w'
theorem aB(hp:pu i=true)(h:φ i c w)(b:(execOp A.eval o).run P w=.ok (.value c) w):o.wp P A w (jW (Lr g T) pu fr φ o i A w) Q:=by unfold Oper.wp;rw[b];exact⟨c,rfl,by rw[if_pos hp],h⟩
theorem iM(hp:pu i=false)(hf:fr i=false)(d:Below w.heap.size w w')(h:φ i c w')(b:(execOp A.eval o).run P w=.ok (.value c) w'):o.wp P A w (jW (Lr g T) pu fr φ o i A w) Q:=by unfold Oper.wp;rw[b];exact⟨c,rfl,by rw[if_neg (by rw[hp];simp),if_neg (by rw[hf];simp)];exact d,h⟩
theorem Ow(hp:pu i=false)(hf:fr i=true)(d:Lr g T w w')(h:φ i c w')(b:(execOp A.eval o).run P w=.ok (.value c) w'):o.wp P A w (jW (Lr g T) pu fr φ o i A w) Q:=by unfold Oper.wp;rw[b];exact⟨c,rfl,by rw[if_neg (by rw[hp];simp),if_pos hf];exact d,h⟩
theorem dI(hp:pu i=false)(hf:fr i=false){f:FuncId}{args:Array Value}(b:(execOp A.eval o).run P w=.ok (.enter f args) w)
  (h:Calls P f args w λe w'=>∃v,e=.returned v/\Below w.heap.size w w'/\φ i v w'):o.wp P A w (jW (Lr g T) pu fr φ o i A w) Q:=by
 unfold Oper.wp;rw[b,Oper.upon_enter];refine h.mono ?_;rintro e w' ⟨v,rfl,d,hv⟩;exact⟨v,rfl,by rw[if_neg (by rw[hp];simp),if_neg (by rw[hf];simp)];exact d,hv⟩
end
section
variable {g:Option Nat} {T:TypeId} {w:World} {P:Program} {o:Oper} {A:Act} {i:Nat} {pu fr:Nat->Bool} {φ:Nat->Value->World->Prop} {Q:Exit->Act->World->Prop}
theorem Ib{x:Operand}(b:o.op=.move x)(hp:pu i=true)(h:φ i (A.eval x) w):o.wp P A w (jW (Lr g T) pu fr φ o i A w) Q :=
 aB hp h (by unfold execOp;rw[b];rfl)
theorem ji{c x y:Operand}{b:Bool}(d:o.op=.pick c x y)(hc:A.eval c=.bool b)(hp:pu i=true)(h:φ i (cond b (A.eval x) (A.eval y)) w):o.wp P A w (jW (Lr g T) pu fr φ o i A w) Q :=
 aB hp h (by unfold execOp;rw[d];simp only[hc];cases b<;>rfl)
end
end Q
end
section
namespace Q
open Go Go.RowKit
theorem lZ:(∀(α:Type)(a:α)(l:List α),(a::l).length=l.length+1)/\(∀α:Type,([]:List α).length=0)/\(∀(α:Type)(a:α)(l:List α)(i:Nat),(a::l).drop (i+1)=l.drop i)/\∀(α:Type)(l:List α),l.drop 0=l:=⟨λ_ _ _=>rfl,λ_=>rfl,λ_ _ _ _=>rfl,λ_ _=>rfl⟩
section
variable {g:Option Nat} {T:TypeId} {w:World} {o:Oper} {A:Act} {i:Nat} {pu fr:Nat->Bool} {φ:Nat->Value->World->Prop} {R:Exit->Act->World->Prop} {P:Program} {ops:List Oper} {Y:Prop} {c:Value}
theorem nO(x:Bool){j d:Nat}{b:Bool}{X:Prop}(hv:A.eval (.tmp d)=.bool x)(hg:o.guard=some (j,b):=by rfl)(hd:bg ops j=some d:=by rfl)(e:(x==b)=false:=by rfl)(h:Y:=by rfl):H9 ops o A X Y:=SQ hg hd hv e h
theorem pK{k x y:Operand}{b:Bool}(d:o.op=.pick k x y)(hc:A.eval k=.bool b)(h:φ i (cond b (A.eval x) (A.eval y)) w)(hg:o.guard=none:=by rfl)(hp:pu i=true:=by rfl):H9 ops o A (o.wp P A w (jW (Lr g T) pu fr φ o i A w) R) Y:=ae hg (ji d hc hp h)
end
end Q
end
section
namespace Q
open Go Go.RowKit
def eO {α:Type} (E:World->List Value->α->Prop) (w:World):List Value->List α->Prop
 | xs,[]=>xs=[]
 | xs,t::l=>∃c r,xs=c++r/\E w c t/\eO E w r l
structure El (α:Type) where
 T:TypeId
 sz:Nat
 pos:0<sz
 E:World->List Value->α->Prop
 len:∀{w c t},E w c t->c.length=sz
 one:∀{w c t},E w c t->∀v∈c,v.oneCell'=true
 on:∀{w w' c t},E w c t->Below w.heap.size w w'->E w' c t
 ok:TypeId->Prop
 lr:∀{g T' w w' c t},E w c t->Lr g T' w w'->ok T'->E w' c t
 self:ok T
namespace eO
variable {α:Type} {e:El α} {w w':World}
theorem length:∀{l:List α}{b:List Value},eO e.E w b l->b.length=l.length*e.sz
 | [],b,h=>by unfold eO at h;subst h;simp
 | t::l,b,h=>by obtain⟨c,r,rfl,hc,d⟩:=h;rw[List.length_append,e.len hc,d.length,List.length_cons,Nat.add_mul];omega
theorem ones:∀{l:List α}{b:List Value},eO e.E w b l->∀v∈b,v.oneCell'=true
 | [],b,h=>by unfold eO at h;subst h;simp
 | t::l,b,h=>by
  obtain⟨c,r,rfl,hc,d⟩:=h;intro v hv;rcases List.mem_append.1 hv with hv|hv
  ·exact e.one hc v hv
  ·exact d.ones v hv
theorem on:∀{l:List α}{b:List Value},eO e.E w b l->Below w.heap.size w w'->eO e.E w' b l
 | [],_,h,_=>h
 | t::l,b,⟨c,r,h1,hc,hr⟩,hb=>⟨c,r,h1,e.on hc hb,hr.on hb⟩
theorem lr{g:Option Nat}{T:TypeId}(d:e.ok T):∀{l:List α}{b:List Value},eO e.E w b l->Lr g T w w'->eO e.E w' b l
 | [],_,h,_=>h
 | t::l,b,⟨c,r,h1,hc,hr⟩,hb=>⟨c,r,h1,e.lr hc hb d,hr.lr d hb⟩
theorem append:∀{l r:List α}{b d:List Value},eO e.E w b l->eO e.E w d r->eO e.E w (b++d) (l++r)
 | [],_,b,_,h,h'=>by unfold eO at h;subst h;exact h'
 | t::l,_,b,_,⟨c,q,h1,hc,hr⟩,h'=>⟨c,q++_,by rw[h1,List.append_assoc],hc,hr.append h'⟩
theorem single{c:List Value}{t:α}(h:e.E w c t):eO e.E w c [t]:=⟨c,[],sM,h,rfl⟩
theorem drop:∀{l:List α}{b:List Value}(k:Nat),eO e.E w b l->eO e.E w (b.drop (k*e.sz)) (l.drop k)
 | [],b,k,h=>by unfold eO at h;subst h;simp[eO]
 | t::l,b,0,h=>by simpa using h
 | t::l,b,k+1,⟨c,r,h1,hc,hr⟩=>by have:=hr.drop k;have d:=e.len hc;rw[List.drop_succ_cons,h1,show(k+1)*e.sz=c.length+k*e.sz by rw[d,Nat.add_mul];omega,<-List.drop_drop,List.drop_left];exact this
theorem take:∀{l:List α}{b:List Value}(k:Nat),eO e.E w b l->eO e.E w (b.take (k*e.sz)) (l.take k)
 | [],b,k,h=>by unfold eO at h;subst h;simp[eO]
 | t::l,b,0,h=>by simp[eO]
 | t::l,b,k+1,⟨c,r,h1,hc,hr⟩=>by have:=hr.take k;have d:=e.len hc;rw[List.take_succ_cons,h1,show(k+1)*e.sz=c.length+k*e.sz by rw[d,Nat.add_mul];omega,List.take_length_add_append];exact⟨c,_,rfl,hc,this⟩
theorem at':∀{l:List α}{b:List Value}{j:Nat}{t:α},eO e.E w b l->l[j]?=some t->∃c,e.E w c t/\∀q,q<e.sz->b[j*e.sz+q]?=c[q]?
 | [],_,_,_,_,h=>by simp at h
 | t::l,b,0,s,⟨c,r,h1,hc,hr⟩,h=>by simp at h;subst h;refine⟨c,hc,λq hq=>?_⟩;rw[h1,Nat.zero_mul,Nat.zero_add,List.getElem?_append_left (by rw[e.len hc];exact hq)]
 | t::l,b,j+1,s,⟨c,r,h1,hc,hr⟩,h=>by obtain⟨d,hd,hq⟩:=hr.at' (j:=j) (by simpa using h);refine⟨d,hd,λq i=>?_⟩;rw[h1,List.getElem?_append_right (by rw[e.len hc,Nat.add_mul];omega),e.len hc,show(j+1)*e.sz+q - e.sz=j*e.sz+q by rw[Nat.add_mul];omega];exact hq q i
end eO
def bU {α:Type} (e:El α) (w:World) (v:Value) (l:List α):Prop:=∃ao cap xs,v=.slice ao l.length cap/\l.length<=cap/\At e.T w ao xs/\eO e.E w xs l
def di {α:Type} (e:El α) (base:Nat) (w:World) (v:Value) (l:List α):Prop:=∃xs,w.ownsRow base e.T e.sz v l.length xs/\eO e.E w xs l
section
variable {α:Type} {e:El α} {w w':World} {v:Value} {l:List α} {base:Nat}
theorem bU.on(h:bU e w v l)(hb:Below w.heap.size w w'):bU e w' v l :=
 let ⟨ao,cap,xs,h1,h2,h3,h4⟩:=h;⟨ao,cap,xs,h1,h2,h3.on hb,h4.on hb⟩
theorem bU.lr{g:Option Nat}{T:TypeId}(h:bU e w v l)(d:Lr g T w w')(i:e.ok T)(b:e.T≠T):bU e w' v l :=
 let ⟨ao,cap,xs,h1,h2,h3,h4⟩:=h;⟨ao,cap,xs,h1,h2,h3.lr d b,h4.lr i d⟩
theorem bU.nil(e:El α)(w:World):bU e w (.slice none 0 0) []:=⟨none,0,[],rfl,nL _,At.nil,rfl⟩
theorem bU.one(h:bU e w v l):v.oneCell'=true:=by obtain⟨b,cap,d,rfl,_⟩:=h;rfl
theorem bU.shape(h:bU e w v l):∃b cap,v=.slice b l.length cap/\l.length<=cap:=let ⟨b,cap,_,h1,h2,_⟩:=h;⟨b,cap,h1,h2⟩
theorem Vd{T:TypeId}{w:World}{d:Option Addr}{i:List Value}{n sz c:Nat}(h:At T w d i)(j:i.length=n*sz)(hc:n<=c)(k:Nat):At T w (if c=k then d else d.map (·.add (k*sz))) (i.drop (k*sz)):=λhp=>by
 simp only[List.length_drop,j,<-Nat.sub_mul]at hp
 have m:k<n:=by
  rcases Nat.lt_or_ge k n with h|h
  ·exact h
  ·rw[Nat.sub_eq_zero_of_le h]at hp;simp at hp
 obtain⟨b,off,rfl,e⟩:=h (by rw[j];have:1*1<=n*sz:=Nat.mul_le_mul oM (by rcases Nat.eq_zero_or_pos sz with h|h;(· subst h;simp at hp);exact h);omega);refine⟨b,off+k*sz,?_,e.drop _⟩;rw[if_neg oM];simp only[Option.map_some,Addr.add];split
 ·rename_i l;rw[l];rfl
 ·rfl
theorem bU.drop{b:Option Addr}{n c:Nat}(h:bU e w (.slice b n c) l)(k:Nat):bU e w (.slice (if c=k then b else b.map (·.add (k*e.sz))) (n-k) (c-k)) (l.drop k):=by obtain⟨i,cap,p,j,m,o,d⟩:=h;cases j;exact⟨_,c - k,_,by rw[List.length_drop],by rw[List.length_drop];omega,Vd o d.length m k,d.drop k⟩
theorem bU.take{b:Option Addr}{n c:Nat}(h:bU e w (.slice b n c) l)(k:Nat)(o:k<=n):bU e w (.slice b k c) (l.take k):=by obtain⟨d,cap,q,i,p,j,m⟩:=h;cases i;exact⟨_,c,_,by rw[List.length_take,Nat.min_eq_left o],by rw[List.length_take];omega,j.take _,m.take k⟩
theorem bU.get{o:Option Addr}{n c j:Nat}{t:α}(h:bU e w (.slice o n c) l)(p:l[j]?=some t):∃b off cs,o=some ⟨b,off,none⟩/\n=l.length/\e.E w cs t/\bS e.T w b (off+j*e.sz) cs:=by
 obtain⟨s,cap,F,u,D,x,k⟩:=h;cases u;have B:j<l.length:=(gS.1 p).1;have r:=e.pos
 have z:j*e.sz+e.sz<=l.length*e.sz:=by have:=Nat.mul_le_mul_right e.sz (oM:j+1<=l.length);rw[Nat.add_mul]at this;omega
 obtain⟨b,off,rfl,hc⟩:=x (by rw[k.length];omega);obtain⟨d,hd,hq⟩:=k.at' p;obtain⟨C,fr,y,m⟩:=hc;refine⟨b,off,d,rfl,rfl,hd,C,fr,y,λq i=>?_⟩;rw[e.len hd]at i;rw[Nat.add_assoc,m _ (by rw[k.length];omega)];exact hq q i
theorem bS.range{T:TypeId}{w:World}{b off:Nat}{cs:List Value}(h:bS T w b off cs):w.rangeAt b off cs:=λj v hv=>by rw[h.cell j (gS.1 hv).1];exact hv
theorem di.nil(e:El α)(base:Nat)(w:World):di e base w (.slice none 0 0) []:=⟨[],World.ownsRow_nil w base e.T e.sz,rfl⟩
theorem di.isSl(h:di e base w v l):bU e w v l:=by
 obtain⟨p,o,he⟩:=h;rcases o.2 with ⟨rfl,i⟩|⟨g,cap,b,rfl,hb,hg,n,hc,k,d⟩
 ·have:l=[]:=List.eq_nil_of_length_eq_zero i;subst this;exact bU.nil e w
 ·refine⟨_,cap,p,rfl,n,λhp=>⟨g,0,rfl,b,(0,0),hg,λj m=>?_⟩,he⟩;rw[Nat.zero_add,<-d,List.getElem?_take,if_pos (by rw[<-he.length];exact m)];simp
theorem di.okr(h:di e base w v l):fK v.ownBlock e.T w:=let ⟨_,ho,_⟩:=h;H8 ho
theorem di.base_le(h:di e base w v l):∀k,v.ownBlock=some k->base<=k/\k<w.heap.size:=let ⟨_,ho,_⟩:=h;ho.lt
theorem di.on(h:di e base w v l)(hb:Below w.heap.size w w'):di e base w' v l:=by obtain⟨d,b,he⟩:=h;exact⟨d,b.kept (bW hb none) (by cases v.ownBlock<;>simp),he.on hb⟩
theorem di.lr{g:Option Nat}{T:TypeId}(h:di e base w v l)(d:Lr g T w w')(i:e.ok T)(b:v.ownBlock=none\/v.ownBlock≠g):di e base w' v l:=by obtain⟨k,j,he⟩:=h;exact⟨k,j.kept d.1 b,he.lr i d⟩
theorem di.shape(h:di e base w v l):∃b cap,v=.slice b l.length cap/\l.length<=cap:=h.isSl.shape
end
section
variable {P:Program}
theorem gT{t el:TypeId}(m:P.underlying t=some (.slice el)){size:Nat}(d:(P.info? el).map (·.size)=some size)(w:World)(a:Option Addr)(n c j:Nat)(k:IntKind)(lo:Int)(b:lo=(j:Int))(o:j<=n)(p:n<=c) :
  (Instr.sliceAt t (.slice a n c) (some (.int k lo)) none none).run P w=.ok (.slice (if c=j then a else a.map (·.add (j*size))) (n-j) (c-j)) w:=by
 subst b
 obtain⟨i,l,rfl⟩:∃i,P.info? el=some i/\i.size=size:=by
  cases h:P.info? el with
  | none=>simp[h]at d
  | some i=>simp[h]at d;exact⟨i,rfl,d⟩
 have e:(Instr.sliceBound (.int k (j:Int)) n .sliceB).run P w=.ok j w:=by have:=run_sliceBound (P:=P) w k (j:Int) n .sliceB oM oM;simpa using this
 simp[Instr.sliceAt,Instr.slice,Instr.sliceBounds,run_underlying m,e,Result.andThen,Go.sizeOf,typeInfo,l]
theorem jX{t el:TypeId}(p:P.underlying t=some (.slice el)){size:Nat}(l:(P.info? el).map (·.size)=some size)(w:World)(a:Option Addr)(n c j:Nat)(k:IntKind)(b:Int)(d:b=(j:Int))(q:j<=c) :
  (Instr.sliceAt t (.slice a n c) none (some (.int k b)) none).run P w=.ok (.slice a j c) w:=by
 subst d
 obtain⟨i,o,rfl⟩:∃i,P.info? el=some i/\i.size=size:=by
  cases h:P.info? el with
  | none=>simp[h]at l
  | some i=>simp[h]at l;exact⟨i,rfl,l⟩
 have m:(Instr.sliceBound (.int k (j:Int)) c .sliceAcap).run P w=.ok j w:=by have:=run_sliceBound (P:=P) w k (j:Int) c .sliceAcap oM oM;simpa using this
 have e:(if c=0 then a else Option.map (λx=>x.add (0*i.size)) a)=a:=by
  split
  ·rfl
  ·cases a<;>simp[Addr.add]
 simp[Instr.sliceAt,Instr.slice,Instr.sliceBounds,run_underlying p,m,Result.andThen,Go.sizeOf,typeInfo,o];intro _;cases a<;>simp[Addr.add]
theorem EH{t el:TypeId}(m:P.underlying t=some (.slice el)){size:Nat}(l:(P.info? el).map (·.size)=some size)(w:World)(b off n c j:Nat)(k:IntKind)(i:Int)(e:i=(j:Int))(o:j<n) :
  (Instr.indexAt t (.slice (some ⟨b,off,none⟩) n c) (.int k i)).run P w=.ok (.pointer (some ⟨b,off+j*size,none⟩)) w:=by
 subst e
 obtain⟨p,d,rfl⟩:∃i,P.info? el=some i/\i.size=size:=by
  cases h:P.info? el with
  | none=>simp[h]at l
  | some i=>simp[h]at l;exact⟨i,rfl,l⟩
 have hp:P.underlying t=some (.slice (P.elem t)):=by simp[Program.elem,m]
 rw[run_indexAt_slice (h:=hp),if_pos oM];have he:P.elem t=el:=by simp[Program.elem,m]
 simp only[he];simp[Go.sizeOf,typeInfo,d,Addr.add]
theorem qK{α:Type}{e:El α}{t ty:TypeId}(R:P.underlying t=some (.slice e.T)){z:Value}{bytes:Nat}(E:(P.info? e.T).map (λi=>(i.zero,i.size,i.bytes))=some (some z,e.sz,bytes))(hz:z.cells.size=e.sz)
  {w:World} {base:Nat} {v u:Value} {l r:List α} (ho:di e base w v l) (hu:bU e w u r) (B:l.length+r.length<=1000000000) (J:bytes<=100000) (D:base<=w.heap.size) :
  ∃G w',(Builtin.append_ #[t,t] ty #[v,u]).run P w=.ok G w'/\di e base w' G (l++r)/\Lr v.ownBlock e.T w w'/\(G.ownBlock=v.ownBlock\/G.ownBlock=some w.heap.size):=by
 have N:=ho.okr;obtain⟨i,E,S,s,W⟩:=info_parts E;obtain⟨X,n,hex⟩:=ho;obtain⟨ao,cap,y,rfl,a2,Z,d⟩:=hu;by_cases hr:r=[]
 ·subst hr;refine⟨v,w,?_,?_,N.refl,.inl rfl⟩
  ·rcases n.2 with ⟨rfl,h0⟩|⟨g,m,x,rfl,_,_,M,_⟩
   ·cases ao<;>simp[Builtin.append_,run_underlying R,Go.sizeOf,typeInfo,E,Builtin.lenOf,Builtin.firstCells,loadCells,loadCellsFrom,Result.andThen,storeCells]
   ·cases ao<;>simp[Builtin.append_,run_underlying R,Go.sizeOf,typeInfo,E,Builtin.lenOf,Builtin.firstCells,loadCells,loadCellsFrom,Result.andThen,storeCells,M]
  ·rw[List.append_nil];exact⟨X,n,hex⟩
 ·have O:0<y.length:=by
   rw[d.length];exact Nat.mul_pos (by cases r with|nil=>exact absurd rfl hr|cons=>simp) e.pos
  obtain⟨b,off,rfl,K⟩:=Z O
  obtain⟨G,w',q,h2,h3,-,h5⟩:=run_append_own_at (P:=P) w base t ty e.T i z e.sz bytes R E S s W hz e.pos v l.length X n ⟨b,off,none⟩ r.length cap y d.length
   (λj u hu=>by
    have F:j<y.length:=(gS.1 hu).1;rw[Addr.add_mid]
    exact(K.cell j F).trans hu) d.ones (by unfold maxLen;omega) (by
     have h1:(l.length+r.length)*bytes<=1000000000*100000:=Nat.mul_le_mul B J
     omega) D
  have hl:Lr v.ownBlock e.T w w':=by
   refine⟨h3,λk Y=>⟨(N k Y).2,?_⟩⟩;rcases n.2 with ⟨rfl,_⟩|⟨g,m,x,rfl,a3,hg,M,a4,a0,a1⟩
   ·simp[Value.ownBlock]at Y
   ·simp[Value.ownBlock]at Y;subst Y
    have o:∀j u,y[j]?=some u->w.cell? ((⟨b,off,none⟩:Addr).add j)=some u:=λj u hu=>by have F:j<y.length:=(gS.1 hu).1;rw[Addr.add_mid];exact(K.cell j F).trans hu
    by_cases p:l.length+r.length<=m
    ·have L:l.length*i.size+y.length<=x.size:=by rw[d.length,a0,s,<-Nat.add_mul];exact Nat.mul_le_mul_right _ p
     have h:=run_append_room (P:=P) w t ty e.T i R E g l.length m x hg ⟨b,off,none⟩ r.length cap y (by rw[s];exact d.length) o d.ones p L;rw[q]at h;simp only[Result.ok.injEq]at h;rw[h.2];intro C T' fr H;rw[setRow_heap w g x _ e.T _ hg]at H;cases H;rfl
    ·have holds:∀j u,X[j]?=some u->w.cell? ((⟨g,0,none⟩:Addr).add j)=some u:=n.cells (g:=g) rfl
     have h:=run_append_grow (P:=P) w t ty e.T i z R E S ⟨g,0,none⟩ l.length m X (by rw[s];exact n.1) holds ⟨b,off,none⟩ r.length cap y (by rw[s];exact d.length) o oM oM
      (growslice_fits oM (by
       have h1:(l.length+r.length)*bytes<=1000000000*100000:=Nat.mul_le_mul B J
       rw[W];omega))
     rw[q]at h;simp only[Result.ok.injEq]at h;rw[h.2];intro C T' fr H;rw[show _=w.heap[g]? from Go.heap_alloc_old w.drew _ (rJ hg)]at H;have I:w.heap[g]?=some (.cells C T' fr):=H;rw[hg]at I;cases I;rfl
  refine⟨G,w',q,⟨X++y,by rw[List.length_append];exact h2,(hex.lr ?_ hl).append (d.lr ?_ hl)⟩,hl,h5⟩
  ·exact e.self
  ·exact e.self
end
end Q
end
