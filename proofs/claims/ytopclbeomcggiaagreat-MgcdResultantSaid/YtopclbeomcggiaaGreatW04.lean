/- A region that draws its order, in which one row of the function's own, or one map, may be written: by rW on its operations' values, under a relation on worlds. No program in sight. -/
import Derived.Test.YtopclbeomcggiaaGreatW03
import Derived.Deep.AppendLies
set_option linter.unusedVariables false
set_option linter.unusedSimpArgs false
set_option maxHeartbeats 16000000
set_option maxRecDepth 100000
section
namespace Q
open Go Go.RowKit
def jW (w:World) (k:Nat) (T:TypeId):Prop:=∀ C T' fr,w.heap[k]?=some (.cells C T' fr)->T'=T
def Lr (g:Option Nat) (T:TypeId) (w w':World):Prop:=w.grownBy w' g/\∀ k,g=some k->jW w k T/\jW w' k T
theorem pW {w w1 w2:World} {g:Option Nat} (h1:w.grownBy w1 g) (h2:w1.grownBy w2 g):w.grownBy w2 g :=
 ⟨h2.os.trans h1.os,h2.tape.trans h1.tape,h2.output.trans h1.output,Nat.le_trans h1.size h2.size,fun k hk hne=>(h2.block k (Nat.lt_of_lt_of_le hk h1.size) hne).trans (h1.block k hk hne)⟩
theorem bT {w w':World} (h:Below w.heap.size w w') (g:Option Nat):w.grownBy w' g:=⟨h.os,h.tape,h.output,h.size,fun k hk _=>h.block k hk⟩
theorem Lr.trans {g:Option Nat} {T:TypeId} {w w1 w2:World} (h1:Lr g T w w1) (h2:Lr g T w1 w2):Lr g T w w2 :=
 ⟨pW h1.1 h2.1,fun k hk=>⟨(h1.2 k hk).1,(h2.2 k hk).2⟩⟩
theorem Lr.refl {g:Option Nat} {T:TypeId} {w:World} (h:∀ k,g=some k->jW w k T):Lr g T w w:=⟨World.grownBy.refl _ _,fun k hk=>⟨h k hk,h k hk⟩⟩
theorem Lr.refl' {g:Option Nat} {T:TypeId} {w w':World} (h:Lr g T w w'):Lr g T w' w':=Lr.refl fun k hk=>(h.2 k hk).2
def gp (g:Option Nat) (T:TypeId) (w:World):Prop:=∀ k,g=some k->k<w.heap.size/\jW w k T
theorem gp.none {T:TypeId} {w:World}:gp none T w:=fun _ h=>by cases h
theorem gp.refl {g:Option Nat} {T:TypeId} {w:World} (h:gp g T w):Lr g T w w:=Lr.refl fun k hk=>(h k hk).2
theorem gp.below {g:Option Nat} {T:TypeId} {w w':World} (h:gp g T w) (hb:Below w.heap.size w w'):Lr g T w w' :=
 ⟨bT hb g,fun k hk=>⟨(h k hk).2,fun C T' fr hC=>(h k hk).2 C T' fr (by rw [<- hb.block k (h k hk).1];exact hC)⟩⟩
theorem gp.lr {g:Option Nat} {T:TypeId} {w w':World} (h:gp g T w) (hl:Lr g T w w'):gp g T w':=fun k hk=>⟨Nat.lt_of_lt_of_le (h k hk).1 hl.1.size,(hl.2 k hk).2⟩
theorem Blk.noOther {w:World} {g:Nat} {T:TypeId} {cs:List Value} (h:Blk w g T cs):jW w g T:=fun C T' fr hC=>by
 unfold Blk at h;rw [h] at hC;cases hC;rfl
theorem jW.map {w:World} {k:Nat} {T:TypeId} {es:Array MapEntry} {c:Nat} (h:w.heap[k]?=some (.map es c)):jW w k T:=fun C T' fr hC=>by rw [h] at hC;cases hC
theorem Gn {w:World} {base:Nat} {e:TypeId} {size:Nat} {v:Value} {n:Nat} {xs:List Value} (h:w.ownsRow base e size v n xs):gp v.ownBlock e w:=by
 intro k hk;refine⟨(h.lt k hk).2,?_⟩;rcases h.2 with ⟨rfl,_⟩|⟨g,cap,cur,rfl,_,hg,_⟩
 ·simp [Value.ownBlock] at hk
 ·simp [Value.ownBlock] at hk;subst hk;intro C T' fr hC;rw [hg] at hC;cases hC;rfl
theorem bO.lr {g:Option Nat} {T T':TypeId} {w w':World} {b off:Nat} {cs:List Value} (h:bO T' w b off cs) (hl:Lr g T w w') (hT:T'≠T):bO T' w' b off cs:=by
 obtain⟨C,fr,h1,h2⟩:=h;refine⟨C,fr,?_,h2⟩;rw [hl.1.block b (qU h1) (fun e=>?_)]
 ·exact h1
 ·exact hT ((hl.2 b e.symm).1 C T' fr h1)
theorem bO.lr' {g:Option Nat} {T T':TypeId} {w w':World} {b off:Nat} {cs:List Value} (h:bO T' w b off cs) (hl:Lr g T w w') (hb:some b≠g):bO T' w' b off cs:=by
 obtain⟨C,fr,h1,h2⟩:=h;exact⟨C,fr,by rw [hl.1.block b (qU h1) hb];exact h1,h2⟩
theorem At.lr {g:Option Nat} {T T':TypeId} {w w':World} {ao:Option Addr} {cs:List Value} (h:At T' w ao cs) (hl:Lr g T w w') (hT:T'≠T):At T' w' ao cs:=fun hp =>
 let ⟨b,off,e,hc⟩:=h hp;⟨b,off,e,hc.lr hl hT⟩
theorem Blk.lr {g:Option Nat} {T T':TypeId} {w w':World} {h:Nat} {cs:List Value} (hB:Blk w h T' cs) (hl:Lr g T w w') (hne:some h≠g):Blk w' h T' cs:=by
 have:=hl.1.block h hB.lt hne;unfold Blk at *;rw [this];exact hB
theorem dH.lr {g:Option Nat} {T:TypeId} {w w':World} {v:Value} {l:List Int} (h:dH w v l) (hl:Lr g T w w') (hT:uT≠T):dH w' v l :=
 let ⟨ao,cap,e,h1,h2,h3⟩:=h;⟨ao,cap,e,h1,h2,h3.lr hl hT⟩
theorem aZ.lr {g:Option Nat} {T:TypeId} {w w':World} {neg:Bool} {m:Value} {z:Int} (h:aZ w neg m z) (hl:Lr g T w w') (hT:uT≠T):aZ w' neg m z :=
 let ⟨l,h1,h2⟩:=h;⟨l,h1.lr hl hT,h2⟩
theorem Lr.belowAt {g:Option Nat} {T:TypeId} {w w':World} (h:Lr g T w w') {B:Nat} (hB:B<=w.heap.size) (hg:∀ k,g=some k->B<=k):Below B w w':=(Below.refl _ _).grown h.1 hB hg
theorem Lr.below {T:TypeId} {w w':World} (h:Lr none T w w'):Below w.heap.size w w':=h.belowAt (Nat.le_refl _) (fun _ h=>by cases h)
def jw (ops:List Oper) (k:Nat):Bool :=
 decide (k<=ops.length) &&
 (List.range k).all (fun i=>match ops[i]? with
  | some o=>o.dst.isSome && o.after.toList.all (fun e=>decide (e.on<i) || !Region.binds .any e) && (List.range i).all (fun j=>bF ops j != o.dst)
  | none=>false) &&
 (List.range (ops.length-k)).all (fun d=>match ops[k+d]? with
  | some o=>o.after.toList.all (fun e=>decide (e.on<k+d) || !Region.binds .any e) && (List.range (k+d)).all (fun j=>reaches ops (k+d) j (ops.length+1) (o.after.toList))
  | none=>false)
where
 reaches (ops:List Oper) (_n j:Nat):Nat->List Edge->Bool
  | 0,_=>false
  | f+1,es=>es.any fun e=>Region.binds .any e && (e.on == j || (match ops[e.on]? with|some o=>reaches ops _n j f o.after.toList|none=>false))
section
variable {P:Program} {ops:List Oper} {φ:Nat->Value->World->Prop} {k:Nat} {Q:Exit->Act->World->Prop} {a:Act} {w0:World}
theorem jJ (h:jw ops k=true) {i:Nat} (hi:i<k) :
  ∃ o,ops[i]?=some o/\(∃ d,o.dst=some d)/\(∀ e∈o.after,Region.binds .any e=true->e.on<i)/\∀ j,j<i->bF ops j≠o.dst:=by
 simp only [jw,Bool.and_eq_true,List.all_eq_true,List.mem_range] at h;have:=h.1.2 i hi;split at this
 ·rename_i o ho;simp only [Bool.and_eq_true,List.all_eq_true,List.mem_range,bne_iff_ne] at this;obtain⟨⟨h2,h3⟩,h4⟩:=this;refine⟨o,ho,Option.isSome_iff_exists.1 h2,fun e he hb=>?_,fun j hj=>h4 j hj⟩;have:=h3 e (by simpa using he);simp [hb] at this;exact this
 ·cases this
theorem xn (h:jw ops k=true):k<=ops.length:=by
 simp only [jw,Bool.and_eq_true] at h;simpa using h.1.1
theorem gU {listed:Array Bool} (hcl:∀ i o,listed.getD i false=true->ops[i]?=some o->∀ e∈o.after,Region.binds .any e=true->listed.getD e.on false=true) {n j:Nat} :
  ∀ (f:Nat) (es:List Edge),(∀ e∈es,Region.binds .any e=true->listed.getD e.on false=true)->jw.reaches ops n j f es=true->listed.getD j false=true
 | 0,_,_,h=>by simp [jw.reaches] at h
 | f+1,es,hes,h=>by
  simp only [jw.reaches,List.any_eq_true,Bool.and_eq_true,Bool.or_eq_true,beq_iff_eq] at h;obtain⟨e,he,hb,h⟩:=h;have hl:=hes e he hb;rcases h with h|h
  ·rw [<- h];exact hl
  ·split at h
   ·rename_i o ho;exact gU hcl f _ (fun e' he' hb'=>hcl e.on o hl ho e' (by simpa using he') hb') h
   ·cases h
theorem oV (h:jw ops k=true) {i:Nat} (hi:k<=i) (hlt:i<ops.length) :
  ∃ o,ops[i]?=some o/\(∀ e∈o.after,Region.binds .any e=true->e.on<i)/\∀ j,j<i->jw.reaches ops i j (ops.length+1) o.after.toList=true:=by
 simp only [jw,Bool.and_eq_true,List.all_eq_true,List.mem_range] at h;have:=h.2 (i-k) (by omega);rw [show k+(i-k)=i by omega] at this;split at this
 ·rename_i o ho;simp only [Bool.and_eq_true,List.all_eq_true,List.mem_range] at this;refine⟨o,ho,fun e he hb=>?_,fun j hj=>this.2 j hj⟩;have:=this.1 e (by simpa using he);simp [hb] at this;exact this
 ·cases this
theorem Dj (hs:jw ops k=true):∀ (fuel i:Nat) (listed:Array Bool) (A:Act) (w:World),k<=i->i<=ops.length->listed.size=ops.length ->
  (∀ j,j<i->listed.getD j false=true)->(∀ j,i<=j->listed.getD j false=false)->ops.length-i<=fuel->wpList P ops.toArray Q (ops.drop i) A w ->
  wpAny P .any ops.toArray Q fuel listed A w:=by
 intro fuel
 induction fuel with
 | zero =>
  intro i listed A w hki hi hsz hin hout hf h;have:i=ops.length:=by omega
  subst this;rw [List.drop_of_length_le (Nat.le_refl _)] at h;refine⟨?_,h⟩;rw [List.eq_nil_iff_forall_not_mem];intro j hj;obtain⟨h0,o,ho,_⟩:=mem_ready.1 hj
  have hlt:j<ops.length:=by
   rw [gQ] at ho;exact (List.getElem?_eq_some_iff.1 ho).1
  rw [fF (by omega),hin j hlt] at h0;cases h0
 | succ fuel ih =>
  intro i listed A w hki hi hsz hin hout hf h;by_cases hend:i=ops.length
  ·subst hend;rw [List.drop_of_length_le (Nat.le_refl _)] at h;refine⟨fun _=>h,fun j hj=>?_⟩;obtain⟨h0,o,ho,_⟩:=mem_ready.1 hj
   have hlt:j<ops.length:=by
    rw [gQ] at ho;exact (List.getElem?_eq_some_iff.1 ho).1
   rw [fF (by omega),hin j hlt] at h0;cases h0
  ·have hlt:i<ops.length:=by omega
   obtain⟨o,ho,hedge,hreach⟩:=oV hs hki hlt
   have hready:i∈Region.ready .any ops.toArray listed:=by
    refine mem_ready.2 ⟨by rw [fF (by omega)];exact hout i (Nat.le_refl _),o,by rw [gQ];exact ho,fun e he hb=>hin _ (hedge e he hb)⟩
   refine⟨fun hn=>(by rw [hn] at hready;cases hready),fun j hj=>?_⟩;obtain⟨h0,oj,hoj,hall⟩:=mem_ready.1 hj;rw [gQ] at hoj;have hjlt:j<ops.length:=(List.getElem?_eq_some_iff.1 hoj).1;rw [fF (by omega)] at h0
   have hij:i<=j:=by
    rcases Nat.lt_or_ge j i with h'|h'
    ·rw [hin j h'] at h0;cases h0
    ·exact h'
   have hji:j=i:=by
    rcases Nat.eq_or_lt_of_le hij with h'|h'
    ·exact h'.symm
    ·exfalso;obtain⟨oj',hoj',hedge',hreach'⟩:=oV hs (show k<=j by omega) hjlt
     have hcl:∀ i' o',listed.getD i' false=true->ops[i']?=some o'->∀ e∈o'.after,Region.binds .any e=true->listed.getD e.on false=true:=by
      intro i' o' hl' ho' e he hb
      have hi'i:i' < i:=by
       rcases Nat.lt_or_ge i' i with h''|h''
       ·exact h''
       ·rw [hout i' h''] at hl';cases hl'
      apply hin;by_cases hk':i' < k
      ·obtain⟨o'',ho'',_,he'',_⟩:=jJ hs hk';rw [ho'] at ho'';cases ho'';have:=he'' e he hb;omega
      ·obtain⟨o'',ho'',he'',_⟩:=oV hs (show k<=i' by omega) (by omega);rw [ho'] at ho'';cases ho'';have:=he'' e he hb;omega
     rw [hoj] at hoj';cases hoj';have:=gU hcl _ _ (fun e he hb=>hall e (by simpa using he) hb) (hreach' i h');rw [hout i (Nat.le_refl _)] at this;cases this
   subst hji
   have hd:ops.drop j=oj::ops.drop (j+1):=by
    rw [List.drop_eq_getElem_cons hjlt]
    congr 1
    rw [List.getElem?_eq_getElem hjlt] at hoj;exact Option.some.inj hoj
   rw [hd] at h
   have hih:∀ A w,wpList P ops.toArray Q (ops.drop (j+1)) A w->wpAny P .any ops.toArray Q fuel (listed.setIfInBounds j true) A w:=by
    intro A w h;refine ih (j+1) _ A w (by omega) (by omega) (by simpa using hsz) ?_ ?_ (by omega) h
    ·intro m hm;by_cases hmj:m=j
     ·subst hmj;simp [Array.getD_eq_getD_getElem?,hsz,hjlt]
     ·rw [getD_set_ne _ (Ne.symm hmj)];exact hin m (by omega)
    ·intro m hm;rw [getD_set_ne _ (by omega)];exact hout m (by omega)
   unfold wpOp;rw [gQ,hoj];simp only;unfold wpList at h;split
   ·rename_i hw;rw [if_pos hw] at h;exact h.imp (Oper.wp_mono hih) id
   ·rename_i hw;rw [if_neg hw] at h;exact hih _ _ h
end
def Gp (ops:List Oper) (o:Oper) (A:Act) (X Y:Prop):Prop:=(Region.wanted o (yielded ops.toArray A.tmps)=true->X)/\(¬ Region.wanted o (yielded ops.toArray A.tmps)=true->Y)
theorem ae {ops:List Oper} {o:Oper} {A:Act} {X Y:Prop} (hg:o.guard=none) (h:X):Gp ops o A X Y:=⟨fun _=>h,fun h'=>absurd (by simp [Region.wanted,hg]) h'⟩
theorem Ab {ops:List Oper} {o:Oper} {A:Act} {j d:Nat} {b x:Bool} (hg:o.guard=some (j,b)) (hd:bF ops j=some d) (hv:A.eval (.tmp d)=.bool x):Region.wanted o (yielded ops.toArray A.tmps)=(x == b):=by
 have hv':A.tmps.getD d undef=.bool x:=hv
 have:A.tmps[d]?=some (.bool x):=by
  rw [Array.getD_eq_getD_getElem?] at hv'
  cases hq:A.tmps[d]? with
  | none=>rw [hq] at hv';simp [undef] at hv'
  | some y=>rw [hq] at hv';simpa using hv'
 unfold bF at hd;simp only [Region.wanted,hg,yielded,List.getElem?_toArray,hd,Option.bind_some,this];cases x <;> cases b <;> rfl
theorem aJ {ops:List Oper} {o:Oper} {A:Act} {X Y:Prop} {j d:Nat} {b:Bool} (hg:o.guard=some (j,b)) (hd:bF ops j=some d) (hv:A.eval (.tmp d)=.bool b) (h:X):Gp ops o A X Y :=
 ⟨fun _=>h,fun h'=>absurd (by rw [Ab hg hd hv];simp) h'⟩
theorem RU {ops:List Oper} {o:Oper} {A:Act} {X Y:Prop} {j d:Nat} {b x:Bool} (hg:o.guard=some (j,b)) (hd:bF ops j=some d) (hv:A.eval (.tmp d)=.bool x) (hx:(x == b)=false) (h:Y):Gp ops o A X Y :=
 ⟨(fun h'=>by rw [Ab hg hd hv,hx] at h';cases h'),fun _=>h⟩
def TU (fa:Nat->Tmp->Bool) (L:World->World->Prop) (pu fr:Nat->Bool) (P:Program) (ops:List Oper) (φ:Nat->Value->World->Prop) (k:Nat) (Q:Exit->Act->World->Prop) (a:Act) (w0:World) (i:Nat) (o:Oper):Prop :=
 ∀ A w,(∀ t,fa i t=true->A.eval (.tmp t)=a.eval (.tmp t))->L w0 w->(pu i=false->Below w0.heap.size w0 w)->nQ ops φ A w o.after.toList ->
  Gp ops o A (o.wp P A w (fun A' w'=>∃ v,A'=A.put o.dst v/\(if pu i=true then w'=w else if fr i=true then L w w' else Below w.heap.size w w')/\φ i v w') Q) (φ i undef w)
def rZ (fa:Nat->Tmp->Bool) (L:World->World->Prop) (pu fr:Nat->Bool) (P:Program) (ops:List Oper) (φ:Nat->Value->World->Prop) (k:Nat) (Q:Exit->Act->World->Prop) (a:Act) (w0:World):Nat->List Oper->Prop
 | _,[]=>True
 | i,o::r=>TU fa L pu fr P ops φ k Q a w0 i o/\rZ fa L pu fr P ops φ k Q a w0 (i+1) r
theorem rZ.get {fa:Nat->Tmp->Bool} {L:World->World->Prop} {pu fr:Nat->Bool} {P:Program} {ops:List Oper} {φ:Nat->Value->World->Prop} {k:Nat} {Q:Exit->Act->World->Prop} {a:Act} {w0:World} :
  ∀ {l:List Oper} {i j:Nat} {o:Oper},rZ fa L pu fr P ops φ k Q a w0 i l->l[j]?=some o->TU fa L pu fr P ops φ k Q a w0 (i+j) o
 | [],_,_,_,_,h=>by simp at h
 | x::r,i,0,o,h,ho=>by simp at ho;subst ho;exact h.1
 | x::r,i,j+1,o,h,ho=>by
  have:=h.2.get (j:=j) (by simpa using ho);rw [show i+(j+1)=i+1+j by omega];exact this
def EH (ops:List Oper) (k i:Nat) (t:Tmp):Bool:=(List.range k).all fun j=>bF ops j != some t || (match ops[j]? with|some o=>jw.reaches ops j i (ops.length+1) o.after.toList|none=>false)
def OZ (ops:List Oper) (i:Nat) (t:Tmp):Bool:=(List.range i).all fun j=>bF ops j != some t
theorem Jm {ops:List Oper} {k i:Nat} {t:Tmp} (h:EH ops k i t=true) {j:Nat} (hj:j<k) (hd:bF ops j=some t):∃ o,ops[j]?=some o/\jw.reaches ops j i (ops.length+1) o.after.toList=true:=by
 have:=List.all_eq_true.1 h j (List.mem_range.2 hj);rw [hd] at this;simp only [bne_self_eq_false,Bool.false_or] at this;split at this
 ·rename_i o ho;exact⟨o,ho,this⟩
 ·cases this
theorem Na {ops:List Oper} {i:Nat} {t:Tmp} (h:OZ ops i t=true) {j:Nat} (hj:j<i):bF ops j≠some t:=by
 have:=List.all_eq_true.1 h j (List.mem_range.2 hj);simpa using this
def EI (ops:List Oper) (pu fr:Nat->Bool) (k:Nat):Bool :=
 (List.range k).all fun j=>!fr j || (List.range k).all fun i=>pu i || i == j || (match ops[j]? with|some o=>jw.reaches ops j i (ops.length+1) o.after.toList|none=>false)
theorem Ac {ops:List Oper} {pu fr:Nat->Bool} {k j i:Nat} (h:EI ops pu fr k=true) (hj:j<k) (hi:i<k) (hf:fr j=true) (hp:pu i=false) (hne:i≠j) :
  ∃ o,ops[j]?=some o/\jw.reaches ops j i (ops.length+1) o.after.toList=true:=by
 have h1:=List.all_eq_true.1 h j (List.mem_range.2 hj);rw [hf] at h1;simp only [Bool.not_true,Bool.false_or,List.all_eq_true,List.mem_range] at h1;have h2:=h1 i hi;rw [hp,Bool.false_or,Bool.or_eq_true] at h2;rcases h2 with h2|h2
 ·exact absurd (by simpa using h2) hne
 ·split at h2
  ·rename_i o ho;exact⟨o,ho,h2⟩
  ·cases h2
section
variable {L:World->World->Prop} {pu fr:Nat->Bool} {P:Program} {ops:List Oper} {φ:Nat->Value->World->Prop} {k:Nat} {Q:Exit->Act->World->Prop} {a:Act} {w0:World}
theorem Jo (htr:∀ {w w1 w2},L w w1->L w1 w2->L w w2) (hrf:∀ {w w1},L w w1->L w1 w1) (hSL:∀ {w w'},L w0 w->Below w.heap.size w w'->L w w') (hfr:EI ops pu fr k=true) (hs:jw ops k=true) (hin:∀ i,i<k->∀ d,bF ops i=some d->d<a.tmps.size) (hmono:∀ i,i<k->fr i=false->∀ v w w',L w w'->φ i v w->φ i v w') (hsteps:rZ (EH ops k) L pu fr P ops φ k Q a w0 0 (ops.take k))
  (htail:∀ vs w',L w0 w'->rW φ vs w' k->wpList P ops.toArray Q (ops.drop k) (bv ops vs (fun _=>true) k a) w') :
  ∀ (fuel:Nat) (listed:Array Bool) (vs:Nat->Value) (w:World),listed.size=ops.length ->
   (∀ i o,listed.getD i false=true->ops[i]?=some o->∀ e∈o.after,Region.binds .any e=true->listed.getD e.on false=true) ->
   (∀ j,k<=j->listed.getD j false=false)->L w0 w->((∀ j,j<k->fr j=true->listed.getD j false=false)->Below w0.heap.size w0 w)->(∀ i,i<k->listed.getD i false=true->φ i (vs i) w)->left ops.length listed<=fuel ->
   wpAny P .any ops.toArray Q fuel listed (bv ops vs (fun j=>listed.getD j false) k a) w:=by
 intro fuel
 induction fuel with
 | zero =>
  intro listed vs w hsz hcl hout hb hS hφ hf;have hk:=xn hs
  have hk0:k=ops.length:=by
   rcases Nat.eq_or_lt_of_le hk with h|h
   ·exact h
   ·have:=tV (by omega:left ops.length listed=0) (i:=k) h;rw [fF (by omega),hout k (Nat.le_refl _)] at this;cases this
  have hall:∀ j,j<k->listed.getD j false=true:=fun j hj=>by
   have:=tV (by omega:left ops.length listed=0) (i:=j) (by omega);rwa [fF (by omega)] at this
  refine Dj hs 0 k listed _ w (Nat.le_refl _) hk hsz hall hout (by omega) ?_;have:=htail vs w hb (qx k (fun i hi=>hφ i hi (hall i hi)));rwa [gB (vs':=vs) (p':=fun j=>listed.getD j false) k (fun j hj=>(hall j hj).symm) (fun j _ _=>rfl)] at this
 | succ fuel ih =>
  intro listed vs w hsz hcl hout hb hS hφ hf;have hk:=xn hs;by_cases hall:∀ j,j<k->listed.getD j false=true
  ·have hleft:ops.length-k<=fuel+1:=by
    have:ops.length-k<=left ops.length listed:=by
     unfold left
     have hsub:((List.range' k (ops.length-k))).Sublist ((List.range ops.length).filter fun i=>!listed.getD i true):=by
      have h1:(List.range' k (ops.length-k)).filter (fun i=>!listed.getD i true)=List.range' k (ops.length-k):=by
       rw [List.filter_eq_self];intro j hj;simp only [List.mem_range'_1] at hj;rw [fF (by omega),hout j (by omega)];rfl
      rw [<- h1];apply List.Sublist.filter;rw [List.range_eq_range']
      have h2:List.range' 0 ops.length=List.range' 0 k++List.range' k (ops.length-k):=by
       have:=List.range'_append (s:=0) (m:=k) (n:=ops.length-k) (step:=1);simp only [Nat.one_mul,Nat.zero_add] at this;rw [this];congr 1;omega
      rw [h2];exact List.sublist_append_right _ _
     simpa using hsub.length_le
    omega
   refine Dj hs _ k listed _ w (Nat.le_refl _) hk hsz hall hout hleft ?_;have:=htail vs w hb (qx k (fun i hi=>hφ i hi (hall i hi)));rwa [gB (vs':=vs) (p':=fun j=>listed.getD j false) k (fun j hj=>(hall j hj).symm) (fun j _ _=>rfl)] at this
  ·have hex:∃ j,j<k/\listed.getD j false=false:=by
    apply Classical.byContradiction;intro hno;apply hall;intro j hj;cases hq:listed.getD j false
    ·exact absurd ⟨j,hj,hq⟩ hno
    ·rfl
   -- the least that has not come up is ready
   have hready:∃ j,j∈Region.ready .any ops.toArray listed:=by
    have hwf:∀ n,∀ j,j<=n->j<k->listed.getD j false=false->∃ j,j∈Region.ready .any ops.toArray listed:=by
     intro n
     induction n with
     | zero =>
      intro j hj hjk hjl;obtain⟨o,ho,_,hed,_⟩:=jJ hs hjk;refine⟨j,mem_ready.2 ⟨by rw [fF (by omega)];exact hjl,o,by rw [gQ];exact ho,fun e he hbd=>?_⟩⟩;have:=hed e he hbd;omega
     | succ n ihn =>
      intro j hj hjk hjl;obtain⟨o,ho,_,hed,_⟩:=jJ hs hjk;by_cases hp:∀ e∈o.after,Region.binds .any e=true->listed.getD e.on false=true
      ·exact⟨j,mem_ready.2 ⟨by rw [fF (by omega)];exact hjl,o,by rw [gQ];exact ho,hp⟩⟩
      ·have:∃ e,e∈o.after/\Region.binds .any e=true/\listed.getD e.on false=false:=by
        apply Classical.byContradiction;intro hno;apply hp;intro e he hbd;cases hq:listed.getD e.on false
        ·exact absurd ⟨e,he,hbd,hq⟩ hno
        ·rfl
       obtain⟨e,he,hbd,hq⟩:=this;have:=hed e he hbd;exact ihn e.on (by omega) (by omega) hq
    obtain⟨j,hj,hl⟩:=hex;exact hwf j j (Nat.le_refl _) hj hl
   refine⟨fun hn=>(by obtain⟨j,hj⟩:=hready;rw [hn] at hj;cases hj),fun i hi=>?_⟩;obtain⟨h0,o,ho,hpre⟩:=mem_ready.1 hi;rw [gQ] at ho;have hilt:i<ops.length:=(List.getElem?_eq_some_iff.1 ho).1;rw [fF (by omega)] at h0
   have hik:i<k:=by
    rcases Nat.lt_or_ge i k with h|h
    ·exact h
    ·exfalso;obtain⟨o',ho',_,hreach⟩:=oV hs h hilt;rw [ho] at ho';cases ho';apply hall;intro j hj;exact gU hcl _ _ (fun e he hbd=>hpre e (by simpa using he) hbd) (hreach j (by omega))
   obtain⟨o',ho',⟨d,hd⟩,hed,hdist⟩:=jJ hs hik;rw [ho] at ho';cases ho';have hst:=hsteps.get (j:=i) (o:=o) (by rw [List.getElem?_take,if_pos hik];exact ho);rw [Nat.zero_add] at hst;have hdi:bF ops i=o.dst:=by simp [bF,ho]
   have hdd:∀ j,j<k->j≠i->bF ops i≠none->bF ops j≠bF ops i:=by
    intro j hj hji _;rcases Nat.lt_or_ge j i with h|h
    ·rw [hdi];exact hdist j h
    ·obtain⟨o2,ho2,_,_,hdist2⟩:=jJ hs hj;have:=hdist2 i (by omega);have e2:bF ops j=o2.dst:=by simp [bF,ho2]
     rw [e2];exact fun h=>this h.symm
   have hSi:pu i=false->Below w0.heap.size w0 w:=fun hp=>hS fun j hj hfj=>by
    cases hl:listed.getD j false with
    | false=>rfl
    | true =>
     exfalso;by_cases hji:i=j
     ·subst hji;rw [h0] at hl;cases hl
     ·obtain⟨oj,hoj,hr⟩:=Ac hfr hj hik hfj hp hji;have:=gU hcl _ _ (fun e he hbd=>hcl j oj hl hoj e (by simpa using he) hbd) hr;rw [h0] at this;cases this
   have hrun:=hst (bv ops vs (fun j=>listed.getD j false) k a) w (fun t ht=>mK k (fun j hj hl hd=>by
    obtain⟨oj,hoj,hr⟩:=Jm ht hj hd;have:=gU hcl _ _ (fun e he hbd=>hcl j oj hl hoj e (by simpa using he) hbd) hr
    rw [h0] at this;cases this)) hb hSi (by
    have:∀ es:List Edge,(∀ e∈es,Region.binds .any e=true->e.on<i/\listed.getD e.on false=true)->nQ ops φ (bv ops vs (fun j=>listed.getD j false) k a) w es:=by
     intro es
     induction es with
     | nil=>intro _;trivial
     | cons e es ihe =>
      intro h;refine⟨fun hbd=>?_,ihe (fun e' he'=>h e' (by simp [he']))⟩;obtain⟨hlt,hl⟩:=h e (by simp) hbd;obtain⟨oe,hoe,⟨de,hde⟩,_,hdiste⟩:=jJ hs (show e.on<k by omega);have e1:bF ops e.on=some de:=by simp [bF,hoe,hde]
      rw [e1];simp only [Option.getD_some];rw [qW e1 (fun j hj hji=>?_) hl (hin e.on (by omega) de e1) k (by omega) (Nat.le_refl _)]
      ·exact hφ e.on (by omega) hl
      ·intro hc;rcases Nat.lt_or_ge j e.on with hje|hje
       ·exact hdiste j hje (by rw [hc,hde])
       ·obtain⟨o2,ho2,_,_,hdist2⟩:=jJ hs hj;exact hdist2 e.on (by omega) (by rw [e1,<- hc];simp [bF,ho2])
    exact this _ (fun e he hbd=>⟨hed e (by simpa using he) hbd,hpre e (by simpa using he) hbd⟩))
   suffices hkey:∀ (v:Value) (w':World),(if pu i=true then w'=w else if fr i=true then L w w' else Below w.heap.size w w')->φ i v w' ->
     wpAny P .any ops.toArray Q fuel (listed.setIfInBounds i true) ((bv ops vs (fun j=>listed.getD j false) k a).put o.dst v) w' by
    unfold wpOp;rw [gQ,ho];simp only;split
    ·rename_i hw;left;refine Oper.wp_mono ?_ (hrun.1 hw);rintro A' w' ⟨v,rfl,hbw,hφv⟩;exact hkey v w' hbw hφv
    ·rename_i hw;have h2:=hrun.2 hw;refine hkey undef w ?_ h2;split
     ·rfl
     ·split
      ·exact hrf hb
      ·exact Below.refl _ _
   intro v w' hbw' hφv
   have hbw:L w w':=by
    split at hbw'
    ·rw [hbw'];exact hrf hb
    ·split at hbw'
     ·exact hbw'
     ·exact hSL hb hbw'
   have hnl:listed.getD i false=false:=h0;have hput:=uL (a:=a) (vs:=vs) (v:=v) (p:=fun j=>listed.getD j false) hnl hdd ⟨d,by rw [hdi,hd]⟩ k hik (Nat.le_refl _);rw [<- hdi,<- hput]
   have hpc:bv ops (fun j=>if j=i then v else vs j) (fun j=>listed.getD j false || j == i) k a=bv ops (fun j=>if j=i then v else vs j) (fun j=>(listed.setIfInBounds i true).getD j false) k a:=by
    refine gB k (fun j hj=>?_) (fun j _ _=>rfl);by_cases hji:j=i
    ·subst hji;simp [Array.getD_eq_getD_getElem?,hsz,hilt]
    ·rw [getD_set_ne _ (Ne.symm hji)];have:(j == i)=false:=by simpa using hji
     rw [this,Bool.or_false]
   rw [hpc]
   have hset:∀ j,(listed.setIfInBounds i true).getD j false=true->j=i\/listed.getD j false=true:=fun j hj=>by
    by_cases hji:j=i
    ·exact .inl hji
    ·rw [getD_set_ne _ (Ne.symm hji)] at hj;exact .inr hj
   refine ih _ _ _ (by simpa using hsz) ?_ ?_ (htr hb hbw) ?_ ?_ ?_
   ·intro i' o' hl' ho' e he hbd;rcases hset i' hl' with h|h
    ·subst h;rw [ho] at ho';cases ho';exact getD_set_true (hpre e he hbd)
    ·exact getD_set_true (hcl i' o' h ho' e he hbd)
   ·intro j hj;rw [getD_set_ne _ (by omega)];exact hout j hj
   ·intro hno
    have hno':∀ j,j<k->fr j=true->listed.getD j false=false:=fun j hj hfj=>by
     have:=hno j hj hfj
     cases hl:listed.getD j false with
     | false=>rfl
     | true=>rw [getD_set_true hl] at this;cases this
    have hfi:fr i=false:=by
     cases hf':fr i with
     | false=>rfl
     | true =>
      have:=hno i hik hf';simp [Array.getD_eq_getD_getElem?,hsz,hilt] at this
    have hS0:=hS hno';by_cases hp:pu i=true
    ·rw [if_pos hp] at hbw';rw [hbw'];exact hS0
    ·rw [if_neg hp,if_neg (by rw [hfi];simp)] at hbw';exact hS0.trans (hbw'.mono hS0.size)
   ·intro j hj hl;rcases hset j hl with h|h
    ·subst h;simpa using hφv
    ·by_cases hji:j=i
     ·subst hji;simpa using hφv
     ·simp only [if_neg hji];by_cases hp:pu i=true
      ·rw [if_pos hp] at hbw';rw [hbw'];exact hφ j hj h
      ·cases hfj:fr j with
       | false=>exact hmono j hj hfj _ _ _ hbw (hφ j hj h)
       | true =>
        exfalso;have:=Ac hfr hj hik hfj (by simpa using hp) (Ne.symm hji);obtain⟨oj,hoj,hr⟩:=this;have:=gU hcl _ _ (fun e he hbd=>hcl j oj h hoj e (by simpa using he) hbd) hr;rw [hnl] at this;cases this
   ·have:=Gl hsz (i:=i) (by rw [fF (by omega)];exact h0);omega
theorem xq {id:Nat} (hm:P.follows .mixedOrders=true) (htr:∀ {w w1 w2},L w w1->L w1 w2->L w w2) (hrf:∀ {w w1},L w w1->L w1 w1) (hSL:∀ {w w'},L w0 w->Below w.heap.size w w'->L w w') (φ:Nat->Value->World->Prop) (k:Nat) (hfr:EI ops pu fr k=true) (hs:jw ops k=true) (h00:L w0 { w0 with drawn:=w0.drawn+1 })
  (hin:((List.range k).all fun i=>match bF ops i with|some d=>decide (d<a.tmps.size)|none=>true)=true)
  (hmono:∀ i,i<k->fr i=false->∀ v w w',L w w'->φ i v w->φ i v w') (hsteps:rZ (EH ops k) L pu fr P ops φ k Q a w0 0 (ops.take k))
  (htail:∀ vs w',L w0 w'->rW φ vs w' k->wpList P ops.toArray Q (ops.drop k) (bv ops vs (fun _=>true) k a) w') :
  (Code.region id ops.toArray true).wp P Q a w0:=by
 refine wp_region_any hm ?_
 have hin':∀ i,i<k->∀ d,bF ops i=some d->d<a.tmps.size:=fun i hi d hd=>by
  have:=List.all_eq_true.1 hin i (List.mem_range.2 hi);rw [hd] at this;simpa using this
 have h0:∀ j,(Array.replicate ops.length false).getD j false=false:=fun j=>by
  simp [Array.getD_eq_getD_getElem?,Array.getElem?_replicate];split <;> rfl
 have:=Jo (L:=L) (P:=P) (Q:=Q) (w0:=w0) htr hrf hSL hfr hs hin' hmono hsteps htail ops.length (Array.replicate ops.length false) (fun _=>undef) { w0 with drawn:=w0.drawn+1 } (by simp)
  (fun i o h=>by rw [h0] at h;cases h) (fun j _=>h0 j) h00 (fun _=>⟨rfl,rfl,rfl,Nat.le_refl _,fun _ _=>rfl⟩) (fun i _ h=>by rw [h0] at h;cases h)
  (by unfold left;exact Nat.le_trans (List.length_filter_le _ _) (by simp))
 have e:bv ops (fun _=>undef) (fun j=>(Array.replicate ops.length false).getD j false) k a=a:=by
  have:∀ n,bv ops (fun _=>undef) (fun j=>(Array.replicate ops.length false).getD j false) n a=a:=by
   intro n
   induction n with
   | zero=>rfl
   | succ n ih=>unfold bv;rw [h0,ih];rfl
  exact this k
 rw [e] at this;simpa using this
end
structure af (L:World->World->Prop) where
 eqv:Option Value
 frag:Bool
 pure':Bool
 p:Value->World->Prop
 mono:frag=false->∀ v w w',L w w'->p v w->p v w'
 is:∀ c,eqv=some c->∀ v w,p v w->v=c
namespace af
variable {L:World->World->Prop}
def of (p:Value->World->Prop) (mono:∀ v w w',L w w'->p v w->p v w'):af L:=⟨none,false,false,p,fun _=>mono,fun _ h=>by cases h⟩
def eq (c:Value):af L:=⟨some c,false,true,fun v _=>v=c,fun _ _ _ _ _ h=>h,fun c' h v w hv=>by cases h;exact hv⟩
def ret (c:Value):af L:=⟨some c,false,false,fun v _=>v=c,fun _ _ _ _ _ h=>h,fun c' h v w hv=>by cases h;exact hv⟩
def pu (p:Value->World->Prop) (mono:∀ v w w',L w w'->p v w->p v w'):af L:=⟨none,false,true,p,fun _=>mono,fun _ h=>by cases h⟩
def fragile (p:Value->World->Prop):af L:=⟨none,true,false,p,(fun h=>by cases h),(fun _ h=>by cases h)⟩
def any:af L:=of (fun _ _=>True) (fun _ _ _ _ h=>h)
def asPure (f:af L):af L:={ f with pure':=true }
end af
def Gq {L:World->World->Prop} (fs:List (af L)) (i:Nat) (v:Value) (w:World):Prop:=(fs.getD i .any).p v w
def Xl {L:World->World->Prop} (fs:List (af L)) (i:Nat):Bool:=(fs.getD i .any).pure'
def Xm {L:World->World->Prop} (fs:List (af L)) (i:Nat):Bool:=(fs.getD i .any).frag
def aU {L:World->World->Prop} (P:Program) (ops:Array Oper) (Q:Exit->Act->World->Prop) (rest:List Oper) (w':World):List (af L)->List Tmp->Act->Prop
 | f::fs,d::ds,a=>match f.eqv with
  | some c=>aU P ops Q rest w' fs ds (a.put (some d) c)
  | none=>∀ v,f.p v w'->aU P ops Q rest w' fs ds (a.put (some d) v)
 | _,_,a=>wpList P ops Q rest a w'
theorem xu {L:World->World->Prop} {P:Program} {ops:List Oper} {OPS:Array Oper} {Q:Exit->Act->World->Prop} {rest:List Oper} {w':World} {vs:Nat->Value} {a:Act} :
  ∀ (fs:List (af L)) (ds:List Tmp) (i:Nat),fs.length=ds.length->(∀ j (f:af L),fs[j]?=some f->f.p (vs (i+j)) w')->(∀ j (d:Tmp),ds[j]?=some d->bF ops (i+j)=some d) ->
   aU P OPS Q rest w' fs ds (bv ops vs (fun _=>true) i a)->wpList P OPS Q rest (bv ops vs (fun _=>true) (i+ds.length) a) w'
 | [],[],i,_,_,_,h=>h
 | f::fs,d::ds,i,hl,hf,hd,h=>by
  have h0:=hf 0 f rfl
  have h1:aU P OPS Q rest w' fs ds ((bv ops vs (fun _=>true) i a).put (some d) (vs i)):=by
   unfold aU at h;split at h
   ·rename_i c hc;have:=f.is c hc _ _ h0;rw [Nat.add_zero] at this;rw [this];exact h
   ·exact h _ h0
  have e:bv ops vs (fun _=>true) (i+1) a=(bv ops vs (fun _=>true) i a).put (some d) (vs i):=by
   simp only [bv,if_true,show bF ops i=some d from hd 0 d rfl]
  have:=xu fs ds (i+1) (by simpa using hl) (fun j f' hj=>by rw [show i+1+j=i+(j+1) by omega];exact hf (j+1) f' (by simpa using hj))
   (fun j d' hj=>by rw [show i+1+j=i+(j+1) by omega];exact hd (j+1) d' (by simpa using hj)) (by rw [e];exact h1)
  rw [show i+(d::ds).length=i+1+ds.length by simp;omega];exact this
 | [],_::_,_,h,_,_,_=>by simp at h
 | _::_,[],_,h,_,_,_=>by simp at h
theorem aF {P:Program} {ops:List Oper} {Q:Exit->Act->World->Prop} {a:Act} {w0:World} {id:Nat} (hm:P.follows .mixedOrders=true) (g:Option Nat) (T:TypeId) (hok:gp g T w0) (fs:List (af (Lr g T))) (ds:List Tmp)
  (hs:jw ops fs.length=true) (hfr:EI ops (Xl fs) (Xm fs) fs.length=true) (hds:((ops.take fs.length).map (·.dst))=ds.map some) (hin:ds.all (fun d=>decide (d<a.tmps.size))=true)
  (hsteps:rZ (EH ops fs.length) (Lr g T) (Xl fs) (Xm fs) P ops (Gq fs) fs.length Q a w0 0 (ops.take fs.length))
  (htail:∀ w',Lr g T w0 w'->aU P ops.toArray Q (ops.drop fs.length) w' fs ds a) :
  (Code.region id ops.toArray true).wp P Q a w0:=by
 have nz:=xn hs
 have hlen:ds.length=fs.length:=by
  have:=congrArg List.length hds;simp only [List.length_map,List.length_take] at this;omega
 have hdst:∀ i d,ds[i]?=some d->bF ops i=some d:=fun i d hd=>by
  have hil:i<ds.length:=(List.getElem?_eq_some_iff.1 hd).1;have:((ops.take fs.length).map (·.dst))[i]?=(ds.map some)[i]?:=by rw [hds]
  rw [List.getElem?_map,List.getElem?_map,hd,List.getElem?_take,if_pos (by omega)] at this;unfold bF
  cases ho:ops[i]? with
  | none=>rw [ho] at this;cases this
  | some o=>rw [ho] at this;simpa using this
 refine xq hm (fun h h'=>h.trans h') (fun h=>h.refl') (fun h h'=>(hok.lr h).below h') (Gq fs) fs.length hfr hs ?_ ?_ ?_ hsteps ?_
 ·exact hok.below ⟨rfl,rfl,rfl,Nat.le_refl _,fun _ _=>rfl⟩
 ·rw [List.all_eq_true];intro i hi;have hi':=List.mem_range.1 hi;have hil:i<ds.length:=by omega
  rw [hdst i ds[i] (List.getElem?_eq_getElem hil)];exact List.all_eq_true.1 hin _ (List.getElem_mem hil)
 ·intro i hi hf v w w' hb h;exact (fs.getD i .any).mono hf v w w' hb h
 ·intro vs w' hb hf
  have:=xu (vs:=vs) (a:=a) (w':=w') fs ds 0 hlen.symm (fun j f hj=>by
   have hjl:j<fs.length:=(List.getElem?_eq_some_iff.1 hj).1;have:=tX _ j hf hjl;unfold Gq at this;rw [List.getD_eq_getElem?_getD,hj] at this
   simpa using this) (fun j d hj=>by rw [Nat.zero_add];exact hdst j d hj) (htail w' hb)
  rw [Nat.zero_add,hlen] at this;exact this
def xw (ops:List Oper) (k:Nat):Bool :=
 decide (k<=ops.length) &&
 (List.range k).all (fun i=>match ops[i]? with
  | some o=>o.dst.isSome && o.after.toList.all (fun e=>decide (e.on<i) || !Region.binds .any e) && (List.range i).all (fun j=>bF ops j != o.dst)
  | none=>false)
theorem si {ops:List Oper} {k:Nat} (h:xw ops k=true) {i:Nat} (hi:i<k) :
  ∃ o,ops[i]?=some o/\(∃ d,o.dst=some d)/\(∀ e∈o.after,Region.binds .any e=true->e.on<i)/\∀ j,j<i->bF ops j≠o.dst:=by
 simp only [xw,Bool.and_eq_true,List.all_eq_true,List.mem_range] at h;have:=h.2 i hi;split at this
 ·rename_i o ho;simp only [Bool.and_eq_true,List.all_eq_true,List.mem_range,bne_iff_ne] at this;obtain⟨⟨h2,h3⟩,h4⟩:=this;refine⟨o,ho,Option.isSome_iff_exists.1 h2,fun e he hb=>?_,fun j hj=>h4 j hj⟩;have:=h3 e (by simpa using he);simp [hb] at this;exact this
 ·cases this
theorem Nb {ops:List Oper} {k:Nat} (h:xw ops k=true):k<=ops.length:=by
 simp only [xw,Bool.and_eq_true] at h;simpa using h.1
def O0 (pu fr:Nat->Bool) (k:Nat):Bool:=(List.range k).all fun j=>!fr j || (List.range k).all fun i=>decide (i<=j) || pu i
theorem Dk {pu fr:Nat->Bool} {k j i:Nat} (h:O0 pu fr k=true) (hj:j<k) (hi:i<k) (hf:fr j=true) (hp:pu i=false):i<=j:=by
 have h1:=List.all_eq_true.1 h j (List.mem_range.2 hj);rw [hf] at h1;simp only [Bool.not_true,Bool.false_or,List.all_eq_true,List.mem_range] at h1;have h2:=h1 i hi;rw [hp,Bool.or_false] at h2;simpa using h2
theorem Dl {L:World->World->Prop} {pu fr:Nat->Bool} {P:Program} {ops:List Oper} {φ:Nat->Value->World->Prop} {k:Nat} {Q:Exit->Act->World->Prop} {a:Act} {w0:World}
  (htr:∀ {w w1 w2},L w w1->L w1 w2->L w w2) (hrf:∀ {w w1},L w w1->L w1 w1) (hSL:∀ {w w'},L w0 w->Below w.heap.size w w'->L w w') (hfr:O0 pu fr k=true) (hs:xw ops k=true) (hin:∀ i,i<k->∀ d,bF ops i=some d->d<a.tmps.size)
  (hmono:∀ i,i<k->fr i=false->∀ v w w',L w w'->φ i v w->φ i v w') (hsteps:rZ (OZ ops) L pu fr P ops φ k Q a w0 0 (ops.take k))
  (htail:∀ vs w',L w0 w'->rW φ vs w' k->wpList P ops.toArray Q (ops.drop k) (bv ops vs (fun _=>true) k a) w') :
  ∀ (n i:Nat) (vs:Nat->Value) (w:World),i+n=k->L w0 w->((∀ j,j<i->fr j=false)->Below w0.heap.size w0 w)->(∀ j,j<i->φ j (vs j) w)->wpList P ops.toArray Q (ops.drop i) (bv ops vs (fun _=>true) i a) w
 | 0,i,vs,w,hi,hL,_,hf=>by
  have:i=k:=by omega
  subst this;exact htail vs w hL (qx i hf)
 | n+1,i,vs,w,hi,hL,hS,hf=>by
  have hik:i<k:=by omega
  obtain⟨o,ho,⟨d,hd⟩,hed,hdist⟩:=si hs hik;have hil:i<ops.length:=(List.getElem?_eq_some_iff.1 ho).1
  have mY:ops.drop i=o::ops.drop (i+1):=by
   rw [List.drop_eq_getElem_cons hil]
   congr 1
   rw [List.getElem?_eq_getElem hil] at ho;exact Option.some.inj ho
  have hst:=hsteps.get (j:=i) (o:=o) (by rw [List.getElem?_take,if_pos hik];exact ho);rw [Nat.zero_add] at hst;have hdi:bF ops i=o.dst:=by simp [bF,ho]
  have hrun:=hst (bv ops vs (fun _=>true) i a) w (fun t ht=>mK i (fun j hj _=>Na ht hj)) hL (fun hp=>hS fun j hj=>by
   cases hfj:fr j with
   | false=>rfl
   | true=>have:=Dk hfr (show j<k by omega) hik hfj hp;omega) (by
   have:∀ es:List Edge,(∀ e∈es,Region.binds .any e=true->e.on<i)->nQ ops φ (bv ops vs (fun _=>true) i a) w es:=by
    intro es
    induction es with
    | nil=>intro _;trivial
    | cons e es ihe =>
     intro h;refine⟨fun hbd=>?_,ihe (fun e' he'=>h e' (by simp [he']))⟩;have hlt:=h e (by simp) hbd;obtain⟨oe,hoe,⟨de,hde⟩,_,hdiste⟩:=si hs (show e.on<k by omega);have e1:bF ops e.on=some de:=by simp [bF,hoe,hde]
     rw [e1];simp only [Option.getD_some];rw [qW (k:=i) e1 (fun j hj hji=>?_) rfl (hin e.on (by omega) de e1) i hlt (Nat.le_refl _)]
     ·exact hf e.on hlt
     ·intro hc;rcases Nat.lt_or_ge j e.on with hje|hje
      ·exact hdiste j hje (by rw [hc,hde])
      ·obtain⟨o2,ho2,_,_,hdist2⟩:=si hs (show j<k by omega);exact hdist2 e.on (by omega) (by rw [e1,<- hc];simp [bF,ho2])
   exact this _ (fun e he hbd=>hed e (by simpa using he) hbd))
  have hkey:∀ (v:Value) (w':World),(if pu i=true then w'=w else if fr i=true then L w w' else Below w.heap.size w w')->φ i v w'->wpList P ops.toArray Q (ops.drop (i+1)) ((bv ops vs (fun _=>true) i a).put o.dst v) w':=by
   intro v w' hbw' hφv
   have hbw:L w w':=by
    split at hbw'
    ·rw [hbw'];exact hrf hL
    ·split at hbw'
     ·exact hbw'
     ·exact hSL hL hbw'
   have e:(bv ops vs (fun _=>true) i a).put o.dst v=bv ops (fun j=>if j=i then v else vs j) (fun _=>true) (i+1) a:=by
    simp only [bv,if_true,hdi]
    congr 1
    exact gB i (fun _ _=>rfl) (fun j hj _=>by rw [if_neg (by omega)])
   rw [e];refine Dl (L:=L) (φ:=φ) (w0:=w0) htr hrf hSL hfr hs hin hmono hsteps htail n (i+1) _ w' (by omega) (htr hL hbw) ?hSS fun j hj=>?_
   case hSS =>
    intro hno;have hS0:=hS fun j hj=>hno j (by omega);have hfi:=hno i (by omega);by_cases hp:pu i=true
    ·rw [if_pos hp] at hbw';rw [hbw'];exact hS0
    ·rw [if_neg hp,if_neg (by rw [hfi];simp)] at hbw';exact hS0.trans (hbw'.mono hS0.size)
   by_cases hji:j=i
   ·subst hji;simpa using hφv
   ·simp only [if_neg hji];have hjf:=hf j (by omega);by_cases hp:pu i=true
    ·rw [if_pos hp] at hbw';rw [hbw'];exact hjf
    ·cases hfj:fr j with
     | false=>exact hmono j (by omega) hfj _ _ _ hbw hjf
     | true =>
      exfalso;have:=Dk hfr (show j<k by omega) hik hfj (by simpa using hp);omega
  rw [mY];unfold wpList;by_cases hw:Region.wanted o (yielded ops.toArray (bv ops vs (fun _=>true) i a).tmps)=true
  ·rw [if_pos hw];left;refine Oper.wp_mono ?_ (hrun.1 hw);rintro A' w' ⟨v,rfl,hbw,hφv⟩;exact hkey v w' hbw hφv
  ·rw [if_neg hw];refine hkey undef w ?_ (hrun.2 hw);split
   ·rfl
   ·split
    ·exact hrf hL
    ·exact Below.refl _ _
theorem aP {P:Program} {ops:List Oper} {Q:Exit->Act->World->Prop} {a:Act} {w0:World} {id:Nat} (_hm:True) (g:Option Nat) (T:TypeId) (hok:gp g T w0) (fs:List (af (Lr g T))) (ds:List Tmp)
  (hs:xw ops fs.length=true) (hfr:O0 (Xl fs) (Xm fs) fs.length=true) (hds:((ops.take fs.length).map (·.dst))=ds.map some) (hin:ds.all (fun d=>decide (d<a.tmps.size))=true)
  (hsteps:rZ (OZ ops) (Lr g T) (Xl fs) (Xm fs) P ops (Gq fs) fs.length Q a w0 0 (ops.take fs.length))
  (htail:∀ w',Lr g T w0 w'->aU P ops.toArray Q (ops.drop fs.length) w' fs ds a) :
  (Code.region id ops.toArray false).wp P Q a w0:=by
 have nz:=Nb hs
 have hlen:ds.length=fs.length:=by
  have:=congrArg List.length hds;simp only [List.length_map,List.length_take] at this;omega
 have hdst:∀ i d,ds[i]?=some d->bF ops i=some d:=fun i d hd=>by
  have hil:i<ds.length:=(List.getElem?_eq_some_iff.1 hd).1;have:((ops.take fs.length).map (·.dst))[i]?=(ds.map some)[i]?:=by rw [hds]
  rw [List.getElem?_map,List.getElem?_map,hd,List.getElem?_take,if_pos (by omega)] at this;unfold bF
  cases ho:ops[i]? with
  | none=>rw [ho] at this;cases this
  | some o=>rw [ho] at this;simpa using this
 refine wp_region_lit ?_;have:=Dl (L:=Lr g T) (P:=P) (Q:=Q) (a:=a) (w0:=w0) (fun h h'=>h.trans h') (fun h=>h.refl') (fun h h'=>(hok.lr h).below h') hfr hs ?_ ?_ hsteps ?_ fs.length 0 (fun _=>undef) w0 (by omega) hok.refl (fun _=>Below.refl _ _) (fun j hj=>by omega)
 ·simpa [bv] using this
 ·intro i hi d hd;have hil:i<ds.length:=by omega
  have h1:=hdst i ds[i] (List.getElem?_eq_getElem hil);rw [hd] at h1;have:=List.all_eq_true.1 hin _ (List.getElem_mem hil);cases h1;simpa using this
 ·intro i hi hf v w w' hb h;exact (fs.getD i .any).mono hf v w w' hb h
 ·intro vs w' hb hf
  have:=xu (vs:=vs) (a:=a) (w':=w') fs ds 0 hlen.symm (fun j f hj=>by
   have hjl:j<fs.length:=(List.getElem?_eq_some_iff.1 hj).1;have:=tX _ j hf hjl;unfold Gq at this;rw [List.getD_eq_getElem?_getD,hj] at this
   simpa using this) (fun j d hj=>by rw [Nat.zero_add];exact hdst j d hj) (htail w' hb)
  rw [Nat.zero_add,hlen] at this;exact this
section
variable {g:Option Nat} {T:TypeId} {w0 w w':World} {P:Program} {ops:List Oper} {o:Oper} {A:Act} {i:Nat} {pu fr:Nat->Bool} {φ:Nat->Value->World->Prop} {Q:Exit->Act->World->Prop} {c:Value}
abbrev jK (L:World->World->Prop) (pu fr:Nat->Bool) (φ:Nat->Value->World->Prop) (o:Oper) (i:Nat) (A:Act) (w:World) (A':Act) (w':World):Prop :=
 ∃ v,A'=A.put o.dst v/\(if pu i=true then w'=w else if fr i=true then L w w' else Below w.heap.size w w')/\φ i v w'
theorem aC (hp:pu i=true) (h:φ i c w) (hrun:(execOp A.eval o).run P w=.ok (.value c) w):o.wp P A w (jK (Lr g T) pu fr φ o i A w) Q:=by
 unfold Oper.wp;rw [hrun];exact⟨c,rfl,by rw [if_pos hp],h⟩
theorem iW (hp:pu i=false) (hf:fr i=false) (hl:Below w.heap.size w w') (h:φ i c w') (hrun:(execOp A.eval o).run P w=.ok (.value c) w'):o.wp P A w (jK (Lr g T) pu fr φ o i A w) Q:=by
 unfold Oper.wp;rw [hrun];exact⟨c,rfl,by rw [if_neg (by rw [hp];simp),if_neg (by rw [hf];simp)];exact hl,h⟩
theorem Nc (hp:pu i=false) (hf:fr i=true) (hl:Lr g T w w') (h:φ i c w') (hrun:(execOp A.eval o).run P w=.ok (.value c) w'):o.wp P A w (jK (Lr g T) pu fr φ o i A w) Q:=by
 unfold Oper.wp;rw [hrun];exact⟨c,rfl,by rw [if_neg (by rw [hp];simp),if_pos hf];exact hl,h⟩
theorem fI (hp:pu i=false) (hf:fr i=false) {f:FuncId} {args:Array Value} (hrun:(execOp A.eval o).run P w=.ok (.enter f args) w)
  (h:Calls P f args w fun e w'=>∃ v,e=.returned v/\Below w.heap.size w w'/\φ i v w'):o.wp P A w (jK (Lr g T) pu fr φ o i A w) Q:=by
 unfold Oper.wp;rw [hrun,Oper.upon_enter];refine h.mono ?_;rintro e w' ⟨v,rfl,hb',hv⟩;exact⟨v,rfl,by rw [if_neg (by rw [hp];simp),if_neg (by rw [hf];simp)];exact hb',hv⟩
end
section
variable {g:Option Nat} {T:TypeId} {w:World} {P:Program} {o:Oper} {A:Act} {i:Nat} {pu fr:Nat->Bool} {φ:Nat->Value->World->Prop} {Q:Exit->Act->World->Prop}
theorem Gs {x:Operand} (hop:o.op=.move x) (hp:pu i=true) (h:φ i (A.eval x) w):o.wp P A w (jK (Lr g T) pu fr φ o i A w) Q :=
 aC hp h (by unfold execOp;rw [hop];rfl)
theorem iM {c x y:Operand} {b:Bool} (hop:o.op=.pick c x y) (hc:A.eval c=.bool b) (hp:pu i=true) (h:φ i (cond b (A.eval x) (A.eval y)) w):o.wp P A w (jK (Lr g T) pu fr φ o i A w) Q :=
 aC hp h (by unfold execOp;rw [hop];simp only [hc];cases b <;> rfl)
end
end Q
end
section
namespace Q
open Go Go.RowKit
theorem lZ:(∀ (α:Type) (a:α) (l:List α),(a::l).length=l.length+1)/\(∀ α:Type,([]:List α).length=0)/\(∀ (α:Type) (a:α) (l:List α) (i:Nat),(a::l).drop (i+1)=l.drop i)/\∀ (α:Type) (l:List α),l.drop 0=l:=⟨fun _ _ _=>rfl,fun _=>rfl,fun _ _ _ _=>rfl,fun _ _=>rfl⟩
section
variable {g:Option Nat} {T:TypeId} {w:World} {o:Oper} {A:Act} {i:Nat} {pu fr:Nat->Bool} {φ:Nat->Value->World->Prop} {R:Exit->Act->World->Prop} {P:Program} {ops:List Oper} {Y:Prop} {c:Value}
theorem nO (x:Bool) {j d:Nat} {b:Bool} {X:Prop} (hv:A.eval (.tmp d)=.bool x) (hg:o.guard=some (j,b):=by rfl) (hd:bF ops j=some d:=by rfl) (hx:(x == b)=false:=by rfl) (h:Y:=by rfl):Gp ops o A X Y:=RU hg hd hv hx h
theorem pK {k x y:Operand} {b:Bool} (hop:o.op=.pick k x y) (hc:A.eval k=.bool b) (h:φ i (cond b (A.eval x) (A.eval y)) w) (hg:o.guard=none:=by rfl) (hp:pu i=true:=by rfl):Gp ops o A (o.wp P A w (jK (Lr g T) pu fr φ o i A w) R) Y:=ae hg (iM hop hc hp h)
end
end Q
end
section
namespace Q
open Go Go.RowKit
def dS {α:Type} (E:World->List Value->α->Prop) (w:World):List Value->List α->Prop
 | xs,[]=>xs=[]
 | xs,t::l=>∃ c r,xs=c++r/\E w c t/\dS E w r l
structure El (α:Type) where
 T:TypeId
 sz:Nat
 pos:0<sz
 E:World->List Value->α->Prop
 len:∀ {w c t},E w c t->c.length=sz
 one:∀ {w c t},E w c t->∀ v∈c,v.oneCell'=true
 on:∀ {w w' c t},E w c t->Below w.heap.size w w'->E w' c t
 ok:TypeId->Prop
 lr:∀ {g T' w w' c t},E w c t->Lr g T' w w'->ok T'->E w' c t
 self:ok T
namespace dS
variable {α:Type} {e:El α} {w w':World}
theorem length:∀ {l:List α} {xs:List Value},dS e.E w xs l->xs.length=l.length*e.sz
 | [],xs,h=>by unfold dS at h;subst h;simp
 | t::l,xs,h=>by
  obtain⟨c,r,rfl,hc,hr⟩:=h;rw [List.length_append,e.len hc,hr.length,List.length_cons,Nat.add_mul];omega
theorem ones:∀ {l:List α} {xs:List Value},dS e.E w xs l->∀ v∈xs,v.oneCell'=true
 | [],xs,h=>by unfold dS at h;subst h;simp
 | t::l,xs,h=>by
  obtain⟨c,r,rfl,hc,hr⟩:=h;intro v hv;rcases List.mem_append.1 hv with hv|hv
  ·exact e.one hc v hv
  ·exact hr.ones v hv
theorem on:∀ {l:List α} {xs:List Value},dS e.E w xs l->Below w.heap.size w w'->dS e.E w' xs l
 | [],_,h,_=>h
 | t::l,xs,⟨c,r,h1,hc,hr⟩,hb=>⟨c,r,h1,e.on hc hb,hr.on hb⟩
theorem lr {g:Option Nat} {T:TypeId} (hT:e.ok T):∀ {l:List α} {xs:List Value},dS e.E w xs l->Lr g T w w'->dS e.E w' xs l
 | [],_,h,_=>h
 | t::l,xs,⟨c,r,h1,hc,hr⟩,hb=>⟨c,r,h1,e.lr hc hb hT,hr.lr hT hb⟩
theorem append:∀ {l r:List α} {xs ys:List Value},dS e.E w xs l->dS e.E w ys r->dS e.E w (xs++ys) (l++r)
 | [],_,xs,_,h,h'=>by unfold dS at h;subst h;exact h'
 | t::l,_,xs,_,⟨c,q,h1,hc,hr⟩,h'=>⟨c,q++_,by rw [h1,List.append_assoc],hc,hr.append h'⟩
theorem single {c:List Value} {t:α} (h:e.E w c t):dS e.E w c [t]:=⟨c,[],by simp,h,rfl⟩
theorem drop:∀ {l:List α} {xs:List Value} (k:Nat),dS e.E w xs l->dS e.E w (xs.drop (k*e.sz)) (l.drop k)
 | [],xs,k,h=>by unfold dS at h;subst h;simp [dS]
 | t::l,xs,0,h=>by simpa using h
 | t::l,xs,k+1,⟨c,r,h1,hc,hr⟩=>by
  have:=hr.drop k;have hl:=e.len hc;rw [List.drop_succ_cons,h1,show (k+1)*e.sz=c.length+k*e.sz by rw [hl,Nat.add_mul];omega,<- List.drop_drop,List.drop_left];exact this
theorem take:∀ {l:List α} {xs:List Value} (k:Nat),dS e.E w xs l->dS e.E w (xs.take (k*e.sz)) (l.take k)
 | [],xs,k,h=>by unfold dS at h;subst h;simp [dS]
 | t::l,xs,0,h=>by simp [dS]
 | t::l,xs,k+1,⟨c,r,h1,hc,hr⟩=>by
  have:=hr.take k;have hl:=e.len hc;rw [List.take_succ_cons,h1,show (k+1)*e.sz=c.length+k*e.sz by rw [hl,Nat.add_mul];omega,List.take_length_add_append];exact⟨c,_,rfl,hc,this⟩
theorem at':∀ {l:List α} {xs:List Value} {j:Nat} {t:α},dS e.E w xs l->l[j]?=some t->∃ c,e.E w c t/\∀ q,q<e.sz->xs[j*e.sz+q]?=c[q]?
 | [],_,_,_,_,h=>by simp at h
 | t::l,xs,0,s,⟨c,r,h1,hc,hr⟩,h=>by
  simp at h;subst h;refine⟨c,hc,fun q hq=>?_⟩;rw [h1,Nat.zero_mul,Nat.zero_add,List.getElem?_append_left (by rw [e.len hc];exact hq)]
 | t::l,xs,j+1,s,⟨c,r,h1,hc,hr⟩,h=>by
  obtain⟨d,hd,hq⟩:=hr.at' (j:=j) (by simpa using h);refine⟨d,hd,fun q hq'=>?_⟩;rw [h1,List.getElem?_append_right (by rw [e.len hc,Nat.add_mul];omega),e.len hc,show (j+1)*e.sz+q - e.sz=j*e.sz+q by rw [Nat.add_mul];omega];exact hq q hq'
end dS
def bS {α:Type} (e:El α) (w:World) (v:Value) (l:List α):Prop:=∃ ao cap xs,v=.slice ao l.length cap/\l.length<=cap/\At e.T w ao xs/\dS e.E w xs l
def cB {α:Type} (e:El α) (base:Nat) (w:World) (v:Value) (l:List α):Prop:=∃ xs,w.ownsRow base e.T e.sz v l.length xs/\dS e.E w xs l
section
variable {α:Type} {e:El α} {w w':World} {v:Value} {l:List α} {base:Nat}
theorem bS.on (h:bS e w v l) (hb:Below w.heap.size w w'):bS e w' v l :=
 let ⟨ao,cap,xs,h1,h2,h3,h4⟩:=h;⟨ao,cap,xs,h1,h2,h3.on hb,h4.on hb⟩
theorem bS.lr {g:Option Nat} {T:TypeId} (h:bS e w v l) (hl:Lr g T w w') (hT:e.ok T) (hT':e.T≠T):bS e w' v l :=
 let ⟨ao,cap,xs,h1,h2,h3,h4⟩:=h;⟨ao,cap,xs,h1,h2,h3.lr hl hT',h4.lr hT hl⟩
theorem bS.nil (e:El α) (w:World):bS e w (.slice none 0 0) []:=⟨none,0,[],rfl,Nat.le_refl _,At.nil,rfl⟩
theorem bS.one (h:bS e w v l):v.oneCell'=true:=by obtain⟨ao,cap,xs,rfl,_⟩:=h;rfl
theorem bS.shape (h:bS e w v l):∃ ao cap,v=.slice ao l.length cap/\l.length<=cap:=let ⟨ao,cap,_,h1,h2,_⟩:=h;⟨ao,cap,h1,h2⟩
theorem Uv {T:TypeId} {w:World} {ao:Option Addr} {xs:List Value} {n sz c:Nat} (h:At T w ao xs) (hn:xs.length=n*sz) (hc:n<=c) (k:Nat):At T w (if c=k then ao else ao.map (·.add (k*sz))) (xs.drop (k*sz)):=fun hp=>by
 simp only [List.length_drop,hn,<- Nat.sub_mul] at hp
 have hkn:k<n:=by
  rcases Nat.lt_or_ge k n with h|h
  ·exact h
  ·rw [Nat.sub_eq_zero_of_le h] at hp;simp at hp
 obtain⟨b,off,rfl,hcl⟩:=h (by rw [hn];have:1*1<=n*sz:=Nat.mul_le_mul (by omega) (by rcases Nat.eq_zero_or_pos sz with h|h;(· subst h;simp at hp);exact h);omega);refine⟨b,off+k*sz,?_,hcl.drop _⟩;rw [if_neg (by omega)];simp only [Option.map_some,Addr.add];split
 ·rename_i h0;rw [h0];rfl
 ·rfl
theorem bS.drop {ao:Option Addr} {n c:Nat} (h:bS e w (.slice ao n c) l) (k:Nat):bS e w (.slice (if c=k then ao else ao.map (·.add (k*e.sz))) (n-k) (c-k)) (l.drop k):=by
 obtain⟨ao',cap,xs,h1,h2,h3,h4⟩:=h;cases h1;exact⟨_,c - k,_,by rw [List.length_drop],by rw [List.length_drop];omega,Uv h3 h4.length h2 k,h4.drop k⟩
theorem bS.take {ao:Option Addr} {n c:Nat} (h:bS e w (.slice ao n c) l) (k:Nat) (hk:k<=n):bS e w (.slice ao k c) (l.take k):=by
 obtain⟨ao',cap,xs,h1,h2,h3,h4⟩:=h;cases h1;exact⟨_,c,_,by rw [List.length_take,Nat.min_eq_left hk],by rw [List.length_take];omega,h3.take _,h4.take k⟩
theorem bS.get {ao:Option Addr} {n c j:Nat} {t:α} (h:bS e w (.slice ao n c) l) (hj:l[j]?=some t):∃ b off cs,ao=some ⟨b,off,none⟩/\n=l.length/\e.E w cs t/\bO e.T w b (off+j*e.sz) cs:=by
 obtain⟨ao',cap,xs,h1,h2,h3,h4⟩:=h;cases h1;have hjl:j<l.length:=(List.getElem?_eq_some_iff.1 hj).1;have hpos:=e.pos
 have hj1:j*e.sz+e.sz<=l.length*e.sz:=by
  have:=Nat.mul_le_mul_right e.sz (show j+1<=l.length by omega);rw [Nat.add_mul] at this;omega
 obtain⟨b,off,rfl,hc⟩:=h3 (by rw [h4.length];omega);obtain⟨d,hd,hq⟩:=h4.at' hj;obtain⟨C,fr,hC,hC'⟩:=hc;refine⟨b,off,d,rfl,rfl,hd,C,fr,hC,fun q hq'=>?_⟩;rw [e.len hd] at hq';rw [Nat.add_assoc,hC' _ (by rw [h4.length];omega)];exact hq q hq'
theorem bO.range {T:TypeId} {w:World} {b off:Nat} {cs:List Value} (h:bO T w b off cs):w.rangeAt b off cs:=fun j v hv=>by
 rw [h.cell j (List.getElem?_eq_some_iff.1 hv).1];exact hv
theorem cB.nil (e:El α) (base:Nat) (w:World):cB e base w (.slice none 0 0) []:=⟨[],World.ownsRow_nil w base e.T e.sz,rfl⟩
theorem cB.isSl (h:cB e base w v l):bS e w v l:=by
 obtain⟨xs,ho,he⟩:=h;rcases ho.2 with ⟨rfl,h0⟩|⟨g,cap,cur,rfl,hb,hg,hn,hc,hcs,htk⟩
 ·have:l=[]:=List.eq_nil_of_length_eq_zero h0;subst this;exact bS.nil e w
 ·refine⟨_,cap,xs,rfl,hn,fun hp=>⟨g,0,rfl,cur,(0,0),hg,fun j hj=>?_⟩,he⟩;rw [Nat.zero_add,<- htk,List.getElem?_take,if_pos (by rw [<- he.length];exact hj)];simp
theorem cB.okr (h:cB e base w v l):gp v.ownBlock e.T w:=let ⟨_,ho,_⟩:=h;Gn ho
theorem cB.base_le (h:cB e base w v l):∀ k,v.ownBlock=some k->base<=k/\k<w.heap.size:=let ⟨_,ho,_⟩:=h;ho.lt
theorem cB.on (h:cB e base w v l) (hb:Below w.heap.size w w'):cB e base w' v l:=by
 obtain⟨xs,ho,he⟩:=h;exact⟨xs,ho.kept (bT hb none) (by cases v.ownBlock <;> simp),he.on hb⟩
theorem cB.lr {g:Option Nat} {T:TypeId} (h:cB e base w v l) (hl:Lr g T w w') (hT:e.ok T) (hne:v.ownBlock=none\/v.ownBlock≠g):cB e base w' v l:=by
 obtain⟨xs,ho,he⟩:=h;exact⟨xs,ho.kept hl.1 hne,he.lr hT hl⟩
theorem cB.shape (h:cB e base w v l):∃ ao cap,v=.slice ao l.length cap/\l.length<=cap:=h.isSl.shape
end
section
variable {P:Program}
theorem fP {t el:TypeId} (ht:P.underlying t=some (.slice el)) {size:Nat} (hs:(P.info? el).map (·.size)=some size) (w:World) (a:Option Addr) (n c j:Nat) (k:IntKind) (lo:Int) (hlo:lo=(j:Int)) (hj:j<=n) (hn:n<=c) :
  (Instr.sliceAt t (.slice a n c) (some (.int k lo)) none none).run P w=.ok (.slice (if c=j then a else a.map (·.add (j*size))) (n-j) (c-j)) w:=by
 subst hlo
 obtain⟨i,hi,rfl⟩:∃ i,P.info? el=some i/\i.size=size:=by
  cases h:P.info? el with
  | none=>simp [h] at hs
  | some i=>simp [h] at hs;exact⟨i,rfl,hs⟩
 have h1:(Instr.sliceBound (.int k (j:Int)) n .sliceB).run P w=.ok j w:=by
  have:=run_sliceBound (P:=P) w k (j:Int) n .sliceB (by omega) (by omega);simpa using this
 simp [Instr.sliceAt,Instr.slice,Instr.sliceBounds,run_underlying ht,h1,Result.andThen,Go.sizeOf,typeInfo,hi]
theorem jL {t el:TypeId} (ht:P.underlying t=some (.slice el)) {size:Nat} (hs:(P.info? el).map (·.size)=some size) (w:World) (a:Option Addr) (n c j:Nat) (k:IntKind) (hi':Int) (hlo:hi'=(j:Int)) (hj:j<=c) :
  (Instr.sliceAt t (.slice a n c) none (some (.int k hi')) none).run P w=.ok (.slice a j c) w:=by
 subst hlo
 obtain⟨i,hi,rfl⟩:∃ i,P.info? el=some i/\i.size=size:=by
  cases h:P.info? el with
  | none=>simp [h] at hs
  | some i=>simp [h] at hs;exact⟨i,rfl,hs⟩
 have h1:(Instr.sliceBound (.int k (j:Int)) c .sliceAcap).run P w=.ok j w:=by
  have:=run_sliceBound (P:=P) w k (j:Int) c .sliceAcap (by omega) (by omega);simpa using this
 have e:(if c=0 then a else Option.map (fun x=>x.add (0*i.size)) a)=a:=by
  split
  ·rfl
  ·cases a <;> simp [Addr.add]
 simp [Instr.sliceAt,Instr.slice,Instr.sliceBounds,run_underlying ht,h1,Result.andThen,Go.sizeOf,typeInfo,hi];intro _;cases a <;> simp [Addr.add]
theorem Dn {t el:TypeId} (ht:P.underlying t=some (.slice el)) {size:Nat} (hs:(P.info? el).map (·.size)=some size) (w:World) (b off n c j:Nat) (k:IntKind) (i:Int) (hij:i=(j:Int)) (hj:j<n) :
  (Instr.indexAt t (.slice (some ⟨b,off,none⟩) n c) (.int k i)).run P w=.ok (.pointer (some ⟨b,off+j*size,none⟩)) w:=by
 subst hij
 obtain⟨ii,hii,rfl⟩:∃ i,P.info? el=some i/\i.size=size:=by
  cases h:P.info? el with
  | none=>simp [h] at hs
  | some i=>simp [h] at hs;exact⟨i,rfl,hs⟩
 have hp:P.underlying t=some (.slice (P.elem t)):=by simp [Program.elem,ht]
 rw [run_indexAt_slice (h:=hp),if_pos (by omega)];have he:P.elem t=el:=by simp [Program.elem,ht]
 simp only [he];simp [Go.sizeOf,typeInfo,hii,Addr.add]
theorem pX {α:Type} {e:El α} {t ty:TypeId} (ht:P.underlying t=some (.slice e.T)) {z:Value} {bytes:Nat} (hi:(P.info? e.T).map (fun i=>(i.zero,i.size,i.bytes))=some (some z,e.sz,bytes)) (hz:z.cells.size=e.sz)
  {w:World} {base:Nat} {v u:Value} {l r:List α} (ho:cB e base w v l) (hu:bS e w u r) (hlen:l.length+r.length<=1000000000) (hby:bytes<=100000) (hbase:base<=w.heap.size) :
  ∃ v' w',(Builtin.append_ #[t,t] ty #[v,u]).run P w=.ok v' w'/\cB e base w' v' (l++r)/\Lr v.ownBlock e.T w w'/\(v'.ownBlock=v.ownBlock\/v'.ownBlock=some w.heap.size):=by
 have hok:=ho.okr;obtain⟨i,hi,hz0,hz2,hz3⟩:=info_parts hi;obtain⟨xs,how,hex⟩:=ho;obtain⟨ao,cap,ys,rfl,hcap,hat,hey⟩:=hu;by_cases hr:r=[]
 ·subst hr;refine⟨v,w,?_,?_,hok.refl,.inl rfl⟩
  ·rcases how.2 with ⟨rfl,h0⟩|⟨g,cap',cur,rfl,_,_,hnc,_⟩
   ·cases ao <;> simp [Builtin.append_,run_underlying ht,Go.sizeOf,typeInfo,hi,Builtin.lenOf,Builtin.firstCells,loadCells,loadCellsFrom,Result.andThen,storeCells]
   ·cases ao <;> simp [Builtin.append_,run_underlying ht,Go.sizeOf,typeInfo,hi,Builtin.lenOf,Builtin.firstCells,loadCells,loadCellsFrom,Result.andThen,storeCells,hnc]
  ·rw [List.append_nil];exact⟨xs,how,hex⟩
 ·have hpos:0<ys.length:=by
   rw [hey.length];exact Nat.mul_pos (by cases r with|nil=>exact absurd rfl hr|cons=>simp) e.pos
  obtain⟨b,off,rfl,hcl⟩:=hat hpos
  obtain⟨v',w',hrun,h2,h3,-,h5⟩:=run_append_own_at (P:=P) w base t ty e.T i z e.sz bytes ht hi hz0 hz2 hz3 hz e.pos v l.length xs how ⟨b,off,none⟩ r.length cap ys hey.length
   (fun j u hu=>by
    have hjl:j<ys.length:=(List.getElem?_eq_some_iff.1 hu).1;rw [Addr.add_mid]
    exact (hcl.cell j hjl).trans hu) hey.ones (by unfold maxLen;omega) (by
     have h1:(l.length+r.length)*bytes<=1000000000*100000:=Nat.mul_le_mul hlen hby
     omega) hbase
  have hl:Lr v.ownBlock e.T w w':=by
   refine⟨h3,fun k hk=>⟨(hok k hk).2,?_⟩⟩;rcases how.2 with ⟨rfl,_⟩|⟨g,cap',cur,rfl,hbg,hg,hnc,hcm,hcs,htake⟩
   ·simp [Value.ownBlock] at hk
   ·simp [Value.ownBlock] at hk;subst hk
    have hnews:∀ j u,ys[j]?=some u->w.cell? ((⟨b,off,none⟩:Addr).add j)=some u:=fun j u hu=>by
     have hjl:j<ys.length:=(List.getElem?_eq_some_iff.1 hu).1;rw [Addr.add_mid];exact (hcl.cell j hjl).trans hu
    by_cases hroom:l.length+r.length<=cap'
    ·have hfit:l.length*i.size+ys.length<=cur.size:=by rw [hey.length,hcs,hz2,<- Nat.add_mul];exact Nat.mul_le_mul_right _ hroom
     have hr2:=run_append_room (P:=P) w t ty e.T i ht hi g l.length cap' cur hg ⟨b,off,none⟩ r.length cap ys (by rw [hz2];exact hey.length) hnews hey.ones hroom hfit;rw [hrun] at hr2;simp only [Result.ok.injEq] at hr2;rw [hr2.2];intro C T' fr hC;rw [setRow_heap w g cur _ e.T _ hg] at hC;cases hC;rfl
    ·have holds:∀ j u,xs[j]?=some u->w.cell? ((⟨g,0,none⟩:Addr).add j)=some u:=how.cells (g:=g) rfl
     have hr2:=run_append_grow (P:=P) w t ty e.T i z ht hi hz0 ⟨g,0,none⟩ l.length cap' xs (by rw [hz2];exact how.1) holds ⟨b,off,none⟩ r.length cap ys (by rw [hz2];exact hey.length) hnews (by omega) (by omega)
      (growslice_fits (by omega) (by
       have h1:(l.length+r.length)*bytes<=1000000000*100000:=Nat.mul_le_mul hlen hby
       rw [hz3];omega))
     rw [hrun] at hr2;simp only [Result.ok.injEq] at hr2;rw [hr2.2];intro C T' fr hC;rw [show _=w.heap[g]? from Go.heap_alloc_old w.drew _ (qU hg)] at hC;have hC':w.heap[g]?=some (.cells C T' fr):=hC;rw [hg] at hC';cases hC';rfl
  refine⟨v',w',hrun,⟨xs++ys,by rw [List.length_append];exact h2,(hex.lr ?_ hl).append (hey.lr ?_ hl)⟩,hl,h5⟩
  ·exact e.self
  ·exact e.self
end
end Q
end
