/- Parts. -/
import Derived.Test.YtopclbeomcggiaaGreatW02
import Derived.Laws.CopyOwn
import Derived.Lib.Hide
import Derived.WalkLawsBesides
import Derived.WalkSpells
set_option linter.unusedVariables false
set_option linter.unusedSimpArgs false
set_option maxHeartbeats 16000000
set_option maxRecDepth 100000
namespace Q
open Go Go.RowKit
def Blk (w:World) (g:Nat) (T:TypeId) (cs:List Value):Prop:=w.heap[g]?=some (.cells cs.toArray T (0,0))
theorem oZ{B:Nat}{a w:World}(h:Below B a w)(n:Nat):Below B a (w.drewN n):=⟨h.os,h.tape,h.output,h.size,h.block⟩
theorem Blk.lt{w:World}{g:Nat}{T:TypeId}{cs:List Value}(h:Blk w g T cs):g<w.heap.size:=by
 rcases Nat.lt_or_ge g w.heap.size with h'|h'
 ·exact h'
 ·unfold Blk at h;rw[Array.getElem?_eq_none h']at h;cases h
theorem Blk.cell{w:World}{g:Nat}{T:TypeId}{cs:List Value}(h:Blk w g T cs)(j:Nat):w.cell? ⟨g,j,none⟩=cs[j]?:=by rw[cell_of_row w g j cs.toArray T (0,0) h];simp
theorem Blk.frozen{w:World}{g:Nat}{T:TypeId}{cs:List Value}(h:Blk w g T cs)(j:Nat):w.frozen? ⟨g,j,none⟩=false :=
 frozen_of_row w g j cs.toArray T h
theorem Blk.keep{w w':World}{g B:Nat}{T:TypeId}{cs:List Value}(h:Blk w g T cs)(hb:Below B w w')(hg:g<B):Blk w' g T cs:=by unfold Blk at *;rw[hb.block g hg];exact h
theorem Blk.on{w w':World}{g:Nat}{T:TypeId}{cs:List Value}(h:Blk w g T cs)(hb:Below w.heap.size w w'):Blk w' g T cs:=h.keep hb h.lt
theorem Blk.set{w:World}{g:Nat}{T:TypeId}{cs:List Value}(h:Blk w g T cs)(j:Nat)(v:Value):Blk (w.setCell ⟨g,j,none⟩ v) g T (cs.set j v):=by unfold Blk at *;rw[heap_setCell_same w g j cs.toArray T v h];simp
theorem Blk.other{w:World}{g:Nat}{T:TypeId}{cs:List Value}(h:Blk w g T cs)(a:Addr)(v:Value)(b:g≠a.block):Blk (w.setCell a v) g T cs:=by unfold Blk at *;rw[Below.heap_setCell _ _ _ _ b];exact h
theorem Blk.new(w:World)(T:TypeId)(cs:List Value):Blk (w.alloc (.cells cs.toArray T)) w.heap.size T cs:=heap_alloc_new w _
theorem Blk.alloc{w:World}{g:Nat}{T:TypeId}{cs:List Value}(h:Blk w g T cs)(o:Obj):Blk (w.alloc o) g T cs:=h.on ((Below.refl _ _).alloc (nL _) o)
theorem Blk.drew{w:World}{g:Nat}{T:TypeId}{cs:List Value}(h:Blk w g T cs):Blk w.drew g T cs:=h
def bS (T:TypeId) (w:World) (b off:Nat) (cs:List Value):Prop:=∃C fr,w.heap[b]?=some (.cells C T fr)/\∀j,j<cs.length->C[off+j]?=cs[j]?
theorem rJ{w:World}{b:Nat}{o:Obj}(h:w.heap[b]?=some o):b<w.heap.size:=by
 rcases Nat.lt_or_ge b w.heap.size with h'|h'
 ·exact h'
 ·rw[Array.getElem?_eq_none h']at h;cases h
theorem bS.lt{T:TypeId}{w:World}{b off:Nat}{cs:List Value}(h:bS T w b off cs):b<w.heap.size:=let ⟨_,_,h,_⟩:=h;rJ h
theorem bS.cell{T:TypeId}{w:World}{b off:Nat}{cs:List Value}(h:bS T w b off cs)(j:Nat)(i:j<cs.length):w.cell? ⟨b,off+j,none⟩=cs[j]?:=by obtain⟨C,fr,d,e⟩:=h;rw[cell_of_row w b (off+j) C T fr d];exact e j i
theorem bS.keep{T:TypeId}{w w':World}{b off B:Nat}{cs:List Value}(h:bS T w b off cs)(hb:Below B w w')(d:b<B):bS T w' b off cs :=
 let ⟨C,fr,h1,h2⟩:=h;⟨C,fr,by rw[hb.block b d];exact h1,h2⟩
theorem bS.on{T:TypeId}{w w':World}{b off:Nat}{cs:List Value}(h:bS T w b off cs)(hb:Below w.heap.size w w'):bS T w' b off cs:=h.keep hb h.lt
theorem bS.stored{T T':TypeId}{w w':World}{b off R:Nat}{cs d:List Value}(h:bS T w b off cs)(hg:w.grownBy w' (some R))(j:Blk w R T' d)(l:T≠T'):bS T w' b off cs:=by
 obtain⟨C,fr,i,k⟩:=h;refine⟨C,fr,?_,k⟩;rw[hg.block b (rJ i) (λe=>?_)]
 ·exact i
 ·cases e;unfold Blk at j;rw[i]at j;cases j;exact l rfl
theorem Blk.cells{w:World}{g:Nat}{T:TypeId}{cs:List Value}(h:Blk w g T cs):bS T w g 0 cs:=⟨cs.toArray,(0,0),h,λj _=>sM⟩
theorem bL{P:Program}{w:World}{ops:Array Oper}{rest:List Oper}{o:Oper}{a:Act}{Q:Exit->Act->World->Prop}
  (hg:o.guard=none) (l c:Operand) (t:TypeId) (u:o.op=Op.makeSlice t l c)
  (e:TypeId) (z:Value) (size bytes:Nat) (h:P.underlying t=some (.slice e)) (s:(P.info? e).map (λi=>(i.zero,i.size,i.bytes))=some (some z,size,bytes)) (y:z.cells.size=1) (S:size=1)
  (kl G:IntKind) (L C:Int) (n:Nat) (N:a.eval l=.int kl L) (hc:a.eval c=.int G C) (hL:L=(n:Int)) (J:C=(n:Int)) (H:bytes*n<=281474976710656) (W:n<=9223372036854775807)
  (K:∀w',Blk w' w.heap.size e (List.replicate n (z.cells[0]!))->Below w.heap.size w w'->wpList P ops Q rest (a.put o.dst (.slice (some ⟨w.heap.size,0,none⟩) n n)) w') :
  wpList P ops Q (o::rest) a w:=by
 obtain⟨i,s,x,B,D⟩:=info_parts s;refine wpList_make_full w hg l c t u w.heap.size e i z size h s x B kl G L C n N hc hL J (by rw[D];exact H) (by unfold maxLen;omega) (nL _) λw' R r=>?_;subst S;refine K w' ?_ ((Below.refl _ _).grown r (nL _) (λk M=>by cases M));rcases R.2 with ⟨d,_⟩|⟨X,E,I,d,_,q,O,_,p,b⟩
 ·simp at d
 ·simp only[Value.slice.injEq,sJ,Addr.mk.injEq,and_true,true_and]at d;obtain⟨rfl,rfl⟩:=d
  have m:z.cells=#[z.cells[0]!]:=by apply Array.ext (by simpa using y);intro j h F;simp at F;subst F;simp[h]
  rw[tL (by rw[Array.length_toList,p];omega)]at b;rw[nU,m,toList_madeCells_one]at b;unfold Blk;rw[q,<-b]
theorem Ao{P:Program}{w:World}{ops:Array Oper}{rest:List Oper}{o:Oper}{a:Act}{Q:Exit->Act->World->Prop}(u:o.guard=none)(d s:Operand)(n I:TypeId)
  (M:o.op=.call { callee:=.builtin .copy,args:=#[d,s],argTypes:=#[n,I] }) (elem:TypeId) (hu:P.underlying n=some (.slice elem)) {z:Value} {bytes:Nat} (x:(P.info? elem).map (λi=>(i.zero,i.size,i.bytes))=some (some z,1,bytes))
  (g dLen dCap:Nat) (E:Option Addr) (sLen k:Nat) (hd:a.eval d=.slice (some ⟨g,0,none⟩) dLen dCap) (N:a.eval s=.slice E sLen k)
  (e:List Value) (t:TypeId) (hg:Blk w g t e) (cs:List Value) (H:cs.length=sLen) (kQ:sLen<=dLen) (G:dLen<=e.length)
  {J:TypeId} (m:0<sLen->∃b off,E=some ⟨b,off,none⟩/\bS J w b off cs) (K:∀v∈cs,v.oneCell'=true) (B:Nat) (p:B<=g)
  (h:∀w',Blk w' g t (cs++e.drop cs.length)->Below B w w'->wpList P ops Q rest (a.put o.dst (goInt sLen)) w') :
  wpList P ops Q (o::rest) a w:=by
 have D:(P.info? elem).map (·.size)=some 1:=by obtain⟨i,x,_,L,_⟩:=info_parts x;rw[x];simp[L]
 refine wpList_copy_splice u d s n I M elem hu D (some ⟨g,0,none⟩) E dLen dCap sLen k hd N g 0 e t hg cs (by rw[H];exact(Nat.min_eq_left kQ).symm) ?_ oM K B w (Below.refl _ _) p ?_
 ·intro hp;obtain⟨b,off,rfl,hc⟩:=m oM;refine⟨rfl,_,rfl,λj v y=>?_⟩
  have C:j<cs.length:=by
   rcases Nat.lt_or_ge j cs.length with h'|h'
   ·exact h'
   ·rw[gN h']at y;cases y
  have:=hc.cell j C;rw[y]at this;by_cases F:j=0
  ·subst F;simpa[Addr.add]using this
  ·simpa[Addr.add,F]using this
 ·intro w' r q;have l:=r.out;rw[show((cs.length:Nat):Int)=(sLen:Int) by rw[H]]at *;refine h w' ?_ q;unfold Blk;rw[l];simp[splice]
theorem gZ{P:Prop}(h:P:=by generalize A.eval=ev at *;go_simp):P:=h
theorem zH{p:Prop}(h:p):Hid p:=Lib.hid h
theorem eF(A:Act)(f:FuncId):A.eval (.func f)=.func (.func f) #[] #[]:=rfl
theorem eC(A:Act)(c:Value):A.eval (.const c)=c:=rfl
theorem eT(t:Nat){A:Act}{v:Value}(h:A.eval (.tmp t)=v):A.eval (.tmp t)=v:=h
def At (T:TypeId) (w:World) (ao:Option Addr) (cs:List Value):Prop:=0<cs.length->∃b off,ao=some ⟨b,off,none⟩/\bS T w b off cs
theorem At.on{T:TypeId}{w w':World}{d:Option Addr}{cs:List Value}(h:At T w d cs)(hb:Below w.heap.size w w'):At T w' d cs:=λhp =>
 let ⟨b,off,e,hc⟩:=h hp;⟨b,off,e,hc.on hb⟩
theorem At.stored{T T':TypeId}{w w':World}{i:Option Addr}{R:Nat}{cs d:List Value}(h:At T w i cs)(hg:w.grownBy w' (some R))(j:Blk w R T' d)(k:T≠T'):At T w' i cs:=λhp =>
 let ⟨b,off,e,hc⟩:=h hp;⟨b,off,e,hc.stored hg j k⟩
theorem At.nil{T:TypeId}{w:World}{b:Option Addr}:At T w b []:=λh=>absurd h sM
theorem Blk.at{w:World}{g:Nat}{T:TypeId}{cs:List Value}(h:Blk w g T cs):At T w (some ⟨g,0,none⟩) cs:=λ_=>⟨g,0,rfl,h.cells⟩
theorem bS.take{T:TypeId}{w:World}{b off:Nat}{cs:List Value}(h:bS T w b off cs)(k:Nat):bS T w b off (cs.take k):=by obtain⟨C,fr,d,e⟩:=h;refine⟨C,fr,d,λj i=>?_⟩;simp only[List.length_take]at i;rw[e j oM,List.getElem?_take,if_pos oM]
theorem bS.drop{T:TypeId}{w:World}{b off:Nat}{cs:List Value}(h:bS T w b off cs)(k:Nat):bS T w b (off+k) (cs.drop k):=by obtain⟨C,fr,d,e⟩:=h;refine⟨C,fr,d,λj i=>?_⟩;simp only[List.length_drop]at i;rw[Nat.add_assoc,e (k+j) oM,List.getElem?_drop]
theorem At.take{T:TypeId}{w:World}{d:Option Addr}{cs:List Value}(h:At T w d cs)(k:Nat):At T w d (cs.take k):=λhp=>by obtain⟨b,off,e,hc⟩:=h (by simp only[List.length_take]at hp;omega);exact⟨b,off,e,hc.take k⟩
def uc (l:List Int):List Value:=l.map (Value.int .u32)
theorem P6(l:List Int)(j:Nat)(h:j<l.length):(uc l)[j]?=some (.int .u32 (l.getD j 0)):=by simp[uc,h]
theorem dG(l:List Int):(uc l).length=l.length:=by simp[uc]
theorem P7(l:List Int):∀v∈uc l,v.oneCell'=true:=ints_oneCell _ _
theorem SN(l:List Int)(k:Nat):uc (l.take k)=(uc l).take k:=by simp[uc,List.map_take]
theorem Blk.uset{w:World}{g:Nat}{T:TypeId}{l:List Int}(h:Blk w g T (uc l))(j:Nat)(x:Int):Blk (w.setCell ⟨g,j,none⟩ (.int .u32 x)) g T (uc (l.set j x)):=by have:=h.set j (.int .u32 x);simpa[uc,List.map_set]using this
theorem Blk.ucell{w:World}{g:Nat}{T:TypeId}{l:List Int}(h:Blk w g T (uc l))(j:Nat)(b:j<l.length):w.cell? ⟨g,j,none⟩=some (.int .u32 (l.getD j 0)):=by rw[h.cell,P6 _ _ b]
theorem bS.ucell{T:TypeId}{w:World}{b off:Nat}{l:List Int}(h:bS T w b off (uc l))(j:Nat)(d:j<l.length):w.cell? ⟨b,off+j,none⟩=some (.int .u32 (l.getD j 0)):=by rw[h.cell j (by rw[dG];exact d),P6 _ _ d]
abbrev uT:TypeId:=104
def cO (w:World) (v:Value) (l:List Int):Prop:=∃ao cap,v=.slice ao l.length cap/\l.length<=cap/\aG l/\At uT w ao (uc l)
theorem cO.on{w w':World}{v:Value}{l:List Int}(h:cO w v l)(hb:Below w.heap.size w w'):cO w' v l :=
 let ⟨ao,cap,e,h1,h2,h3⟩:=h;⟨ao,cap,e,h1,h2,h3.on hb⟩
theorem cO.stored{w w':World}{v:Value}{l:List Int}{R:Nat}{T':TypeId}{b:List Value}(h:cO w v l)(hg:w.grownBy w' (some R))(d:Blk w R T' b)(i:uT≠T'):cO w' v l :=
 let ⟨ao,cap,e,h1,h2,h3⟩:=h;⟨ao,cap,e,h1,h2,h3.stored hg d i⟩
theorem cO.limbs{w:World}{v:Value}{l:List Int}(h:cO w v l):aG l:=let ⟨_,_,_,_,h2,_⟩:=h;h2
theorem cO.nil{w:World}:cO w (.slice none 0 0) []:=⟨none,0,rfl,nL _,aG.nil,At.nil⟩
theorem Blk.u32s{w:World}{g:Nat}{l:List Int}(h:Blk w g uT (uc l))(b:aG l):cO w (.slice (some ⟨g,0,none⟩) l.length l.length) l :=
 ⟨_,_,rfl,nL _,b,h.at⟩
def gL (l:List Int):Prop:=∀h:l≠[],l.getLast h≠0
theorem gL.nil:gL []:=λh=>absurd rfl h
theorem gL.low{l:List Int}(h:gL l)(d:aG l)(hp:0<l.length):bv^(l.length-1)<=ah l:=by
 have b:l≠[]:=by intro e;subst e;simp at hp
 have e:=(List.dropLast_concat_getLast b);have k:=h b;have m:=d (l.getLast b) (List.getLast_mem b);have i:aG l.dropLast:=λx j=>d x (List.dropLast_subset l j);have n:=aU i
 have o:ah l=ah l.dropLast+bv^(l.length-1)*l.getLast b:=by
  conv=>lhs;rw[<-e]
  rw[gP];simp[ah]
 have p:0<bv^(l.length-1):=Int.pow_pos dR;have q:bv^(l.length-1)*1<=bv^(l.length-1)*l.getLast b:=mZ oM oM;omega
theorem gL.pos{l:List Int}(h:gL l)(b:aG l)(hp:0<l.length):0<ah l:=by have:=h.low b hp;have d:0<bv^(l.length-1):=Int.pow_pos dR;omega
theorem Kr{m n:Nat}(h:bv^m<bv^n):m<n:=by
 rcases Nat.lt_or_ge m n with h'|h'
 ·exact h'
 ·exfalso;obtain⟨d,rfl⟩:=Nat.exists_eq_add_of_le h';have b:0<bv^n:=Int.pow_pos dR;have e:0<bv^d:=Int.pow_pos dR;rw[Int.pow_add]at h;have:bv^n*1<=bv^n*bv^d:=mZ oM oM;omega
theorem gL.len_le{l:List Int}(h:gL l)(b:aG l){n:Nat}(hb:ah l<bv^n):l.length<=n:=by
 rcases Nat.eq_zero_or_pos l.length with h0|hp
 ·omega
 ·have:=h.low b hp;have:=Kr (oM:bv^(l.length-1)<bv^n);omega
def fZ (neg:Bool) (n:Int):Int:=if neg then -n else n
def aZ (w:World) (neg:Bool) (m:Value) (z:Int):Prop:=∃l,cO w m l/\gL l/\(neg=true->0<l.length)/\z=fZ neg (ah l)
theorem aZ.on{w w':World}{neg:Bool}{m:Value}{z:Int}(h:aZ w neg m z)(hb:Below w.heap.size w w'):aZ w' neg m z :=
 let ⟨l,h1,h2⟩:=h;⟨l,h1.on hb,h2⟩
theorem aZ.stored{w w':World}{neg:Bool}{m:Value}{z:Int}{R:Nat}{T':TypeId}{b:List Value}(h:aZ w neg m z)(hg:w.grownBy w' (some R))(d:Blk w R T' b)(e:uT≠T'):aZ w' neg m z :=
 let ⟨l,h1,h2⟩:=h;⟨l,h1.stored hg d e,h2⟩
def aF (n:Nat):Nat:=if n=0 then 0 else n.log2+1
theorem pR(n:Nat):n<2^aF n:=by
 unfold aF;split
 ·subst n;decide
 ·exact Nat.lt_log2_self
theorem jL{n k:Nat}(h:n<2^k):aF n<=k:=by
 unfold aF;split
 ·omega
 ·rename_i b;have:=Nat.log2_lt b |>.2 h;omega
theorem iV{m n:Nat}(h:m<=n):aF m<=aF n:=jL (Nat.lt_of_le_of_lt h (pR n))
theorem gB(m n:Nat):aF (m*n)<=aF m+aF n:=by apply jL;rw[Nat.pow_add];exact Nat.mul_lt_mul'' (pR m) (pR n)
theorem Oq(m n:Nat):aF (m+n)<=max (aF m) (aF n)+1:=by apply jL;have b:=pR m;have d:=pR n;have e:2^aF m<=2^max (aF m) (aF n):=Nat.pow_le_pow_right dM oM;have h:2^aF n<=2^max (aF m) (aF n):=Nat.pow_le_pow_right dM oM;rw[Nat.pow_succ];omega
def jl:Nat:=1099511627776
theorem MF(n:Nat):bv^n=((2^(32*n):Nat):Int):=by rw[Nat.pow_mul];simp[bv]
theorem aZ.len{l:List Int}(d:gL l)(b:aG l){K:Nat}(hb:aF (ah l).natAbs<=32*K):l.length<=K:=by apply d.len_le b;have e:=pR (ah l).natAbs;have h:=aU b;have i:2^aF (ah l).natAbs<=2^(32*K):=Nat.pow_le_pow_right dM hb;rw[MF];omega
theorem fe(neg:Bool)(n:Int):(fZ neg n).natAbs=n.natAbs:=by cases neg<;>simp[fZ]
theorem aZ.open{w:World}{neg:Bool}{m:Value}{z:Int}(h:aZ w neg m z)(hz:aF z.natAbs<=jl) :
  ∃l b cap,m=.slice b l.length cap/\l.length<=cap/\l.length<=34359738368/\aG l/\At uT w b (uc l)/\gL l/\(neg=true->0<l.length)/\z=fZ neg (ah l):=by
 obtain⟨l,⟨b,cap,j,k,d,n⟩,e,o,i⟩:=h;refine⟨l,b,cap,j,k,?_,d,n,e,o,i⟩;exact aZ.len e d (by rw[i,fe]at hz;unfold jl at hz;omega)
theorem aZ.shape{w:World}{neg:Bool}{m:Value}{z:Int}(h:aZ w neg m z):∃b n cap,m=.slice b n cap/\(n=0↔z=0)/\n<=cap:=by
 obtain⟨l,⟨b,cap,e,i,j,o⟩,k,p,d⟩:=h;refine⟨b,l.length,cap,e,?_,i⟩;constructor
 ·intro h;have:l=[]:=List.eq_nil_of_length_eq_zero h;subst this;rw[d];cases neg<;>rfl
 ·intro h;rcases Nat.eq_zero_or_pos l.length with h'|h'
  ·exact h'
  ·have:=k.pos j h';rw[d]at h;unfold fZ at h;split at h<;>omega
theorem cO.one{w:World}{v:Value}{l:List Int}(h:cO w v l):v.oneCell'=true:=by obtain⟨b,cap,rfl,_⟩:=h;rfl
theorem aZ.ones{w:World}{neg:Bool}{m:Value}{z:Int}(h:aZ w neg m z):(#[Value.bool neg,m]).all (·.oneCell')=true:=by obtain⟨_,⟨b,cap,rfl,_⟩,_⟩:=h;simp[Value.oneCell']
theorem aj{P:Program}{w:World}{ops:Array Oper}{rest:List Oper}{o:Oper}{a:Act}{Q:Exit->Act->World->Prop}
  (hg:o.guard=none) (x B:Operand) (t:TypeId) (r:o.op=Op.indexAddr t x B) (e:TypeId) (y:P.underlying t=some (.slice e)) (z:Option Value) (size bytes:Nat)
  (d:(P.info? e).map (λi=>(i.zero,i.size,i.bytes))=some (z,size,bytes)) (u:Option Addr) (len cap:Nat) (E:a.eval x=.slice u len cap) (k:IntKind) (i:Int) (q:a.eval B=.int k i)
  (j:Nat) (p:i=(j:Int)) (F:j<len) (b off:Nat) (m:u=some ⟨b,off,none⟩)
  (h:wpList P ops Q rest (a.put o.dst (.pointer (some ⟨b,off+j*size,none⟩))) w):wpList P ops Q (o::rest) a w:=by
 refine wpList_plain hg λK C=>?_;subst m p
 have D:∃i,P.info? e=some i/\i.size=size:=by
  cases hq:P.info? e with
  | none=>rw[hq]at d;cases d
  | some i=>rw[hq]at d;simp at d;exact⟨i,rfl,d.2.1⟩
 obtain⟨G,n,s⟩:=D
 have l:(Instr.indexAt t (.slice (some ⟨b,off,none⟩) len cap) (.int k j)).run P w=.ok (.pointer (some ⟨b,off+j*size,none⟩)) w:=by
  have hp:P.underlying t=some (.slice (P.elem t)):=by simp[Program.elem,y]
  rw[run_indexAt_slice (h:=hp),if_pos oM];have he:P.elem t=e:=by simp[Program.elem,y]
  simp only[he];simp[Go.sizeOf,typeInfo,n,s,Addr.add]
 unfold Oper.wp;simp[execOp,r,E,q,l,Result.andThen];exact C _ _ h
end Q
