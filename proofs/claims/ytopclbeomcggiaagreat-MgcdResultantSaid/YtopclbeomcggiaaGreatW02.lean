/- Parts. -/
import Derived.Test.YtopclbeomcggiaaGreatW01
import Derived.Laws.CopyOwn
import Derived.Lib.Hide
import Derived.WalkLawsBesides
import Derived.WalkSpells
set_option linter.unusedVariables false
set_option linter.unusedSimpArgs false
set_option maxHeartbeats 16000000
set_option maxRecDepth 100000
namespace Q
open Go Go.RowKit
def Blk (w:World) (g:Nat) (T:TypeId) (cs:List Value):Prop:=w.heap[g]?=some (.cells cs.toArray T (0,0))
theorem pV {B:Nat} {a w:World} (h:Below B a w) (n:Nat):Below B a (w.drewN n):=⟨h.os,h.tape,h.output,h.size,h.block⟩
theorem Blk.lt {w:World} {g:Nat} {T:TypeId} {cs:List Value} (h:Blk w g T cs):g<w.heap.size:=by
 rcases Nat.lt_or_ge g w.heap.size with h'|h'
 ·exact h'
 ·unfold Blk at h;rw [Array.getElem?_eq_none h'] at h;cases h
theorem Blk.cell {w:World} {g:Nat} {T:TypeId} {cs:List Value} (h:Blk w g T cs) (j:Nat):w.cell? ⟨g,j,none⟩=cs[j]?:=by
 rw [cell_of_row w g j cs.toArray T (0,0) h];simp
theorem Blk.frozen {w:World} {g:Nat} {T:TypeId} {cs:List Value} (h:Blk w g T cs) (j:Nat):w.frozen? ⟨g,j,none⟩=false :=
 frozen_of_row w g j cs.toArray T h
theorem Blk.keep {w w':World} {g B:Nat} {T:TypeId} {cs:List Value} (h:Blk w g T cs) (hb:Below B w w') (hg:g<B):Blk w' g T cs:=by
 unfold Blk at *;rw [hb.block g hg];exact h
theorem Blk.on {w w':World} {g:Nat} {T:TypeId} {cs:List Value} (h:Blk w g T cs) (hb:Below w.heap.size w w'):Blk w' g T cs:=h.keep hb h.lt
theorem Blk.set {w:World} {g:Nat} {T:TypeId} {cs:List Value} (h:Blk w g T cs) (j:Nat) (v:Value):Blk (w.setCell ⟨g,j,none⟩ v) g T (cs.set j v):=by
 unfold Blk at *;rw [heap_setCell_same w g j cs.toArray T v h];simp
theorem Blk.other {w:World} {g:Nat} {T:TypeId} {cs:List Value} (h:Blk w g T cs) (a:Addr) (v:Value) (hne:g≠a.block):Blk (w.setCell a v) g T cs:=by
 unfold Blk at *;rw [Below.heap_setCell _ _ _ _ hne];exact h
theorem Blk.new (w:World) (T:TypeId) (cs:List Value):Blk (w.alloc (.cells cs.toArray T)) w.heap.size T cs:=heap_alloc_new w _
theorem Blk.alloc {w:World} {g:Nat} {T:TypeId} {cs:List Value} (h:Blk w g T cs) (o:Obj):Blk (w.alloc o) g T cs:=h.on ((Below.refl _ _).alloc (Nat.le_refl _) o)
theorem Blk.drew {w:World} {g:Nat} {T:TypeId} {cs:List Value} (h:Blk w g T cs):Blk w.drew g T cs:=h
def bO (T:TypeId) (w:World) (b off:Nat) (cs:List Value):Prop:=∃ C fr,w.heap[b]?=some (.cells C T fr)/\∀ j,j<cs.length->C[off+j]?=cs[j]?
theorem qU {w:World} {b:Nat} {o:Obj} (h:w.heap[b]?=some o):b<w.heap.size:=by
 rcases Nat.lt_or_ge b w.heap.size with h'|h'
 ·exact h'
 ·rw [Array.getElem?_eq_none h'] at h;cases h
theorem bO.lt {T:TypeId} {w:World} {b off:Nat} {cs:List Value} (h:bO T w b off cs):b<w.heap.size:=let ⟨_,_,h,_⟩:=h;qU h
theorem bO.cell {T:TypeId} {w:World} {b off:Nat} {cs:List Value} (h:bO T w b off cs) (j:Nat) (hj:j<cs.length):w.cell? ⟨b,off+j,none⟩=cs[j]?:=by
 obtain⟨C,fr,h1,h2⟩:=h;rw [cell_of_row w b (off+j) C T fr h1];exact h2 j hj
theorem bO.keep {T:TypeId} {w w':World} {b off B:Nat} {cs:List Value} (h:bO T w b off cs) (hb:Below B w w') (hB:b<B):bO T w' b off cs :=
 let ⟨C,fr,h1,h2⟩:=h;⟨C,fr,by rw [hb.block b hB];exact h1,h2⟩
theorem bO.on {T:TypeId} {w w':World} {b off:Nat} {cs:List Value} (h:bO T w b off cs) (hb:Below w.heap.size w w'):bO T w' b off cs:=h.keep hb h.lt
theorem bO.stored {T T':TypeId} {w w':World} {b off R:Nat} {cs cs':List Value} (h:bO T w b off cs) (hg:w.grownBy w' (some R)) (hB:Blk w R T' cs') (hT:T≠T'):bO T w' b off cs:=by
 obtain⟨C,fr,h1,h2⟩:=h;refine⟨C,fr,?_,h2⟩;rw [hg.block b (qU h1) (fun e=>?_)]
 ·exact h1
 ·cases e;unfold Blk at hB;rw [h1] at hB;cases hB;exact hT rfl
theorem Blk.cells {w:World} {g:Nat} {T:TypeId} {cs:List Value} (h:Blk w g T cs):bO T w g 0 cs:=⟨cs.toArray,(0,0),h,fun j _=>by simp⟩
theorem bQ {P:Program} {w:World} {ops:Array Oper} {rest:List Oper} {o:Oper} {a:Act} {Q:Exit->Act->World->Prop}
  (hg:o.guard=none) (l c:Operand) (t:TypeId) (hop:o.op=Op.makeSlice t l c)
  (e:TypeId) (z:Value) (size bytes:Nat) (h1:P.underlying t=some (.slice e)) (hi:(P.info? e).map (fun i=>(i.zero,i.size,i.bytes))=some (some z,size,bytes)) (hz1:z.cells.size=1) (hs:size=1)
  (kl kc:IntKind) (L C:Int) (n:Nat) (hl:a.eval l=.int kl L) (hc:a.eval c=.int kc C) (hL:L=(n:Int)) (hC:C=(n:Int)) (b2:bytes*n<=281474976710656) (b3:n<=9223372036854775807)
  (hK:∀ w',Blk w' w.heap.size e (List.replicate n (z.cells[0]!))->Below w.heap.size w w'->wpList P ops Q rest (a.put o.dst (.slice (some ⟨w.heap.size,0,none⟩) n n)) w') :
  wpList P ops Q (o::rest) a w:=by
 obtain⟨i,hi,hz0,hz2,hz3⟩:=info_parts hi;refine wpList_make_full w hg l c t hop w.heap.size e i z size h1 hi hz0 hz2 kl kc L C n hl hc hL hC (by rw [hz3];exact b2) (by unfold maxLen;omega) (Nat.le_refl _) fun w' ho hgr=>?_;subst hs;refine hK w' ?_ ((Below.refl _ _).grown hgr (Nat.le_refl _) (fun k hk=>by cases hk));rcases ho.2 with ⟨h',_⟩|⟨g',cap',cur,h',_,hg',hnc,_,hcs,htake⟩
 ·simp at h'
 ·simp only [Value.slice.injEq,Option.some.injEq,Addr.mk.injEq,and_true,true_and] at h';obtain⟨rfl,rfl⟩:=h'
  have hc1:z.cells=#[z.cells[0]!]:=by
   apply Array.ext (by simpa using hz1);intro j h1 h2;simp at h2;subst h2;simp [h1]
  rw [List.take_of_length_le (by rw [Array.length_toList,hcs];omega)] at htake;rw [Nat.mul_one,hc1,toList_madeCells_one] at htake;unfold Blk;rw [hg',<- htake]
theorem zm {P:Program} {w:World} {ops:Array Oper} {rest:List Oper} {o:Oper} {a:Act} {Q:Exit->Act->World->Prop} (hgd:o.guard=none) (d s:Operand) (dT sT:TypeId)
  (ho:o.op=.call { callee:=.builtin .copy,args:=#[d,s],argTypes:=#[dT,sT] }) (elem:TypeId) (hu:P.underlying dT=some (.slice elem)) {z:Value} {bytes:Nat} (hi:(P.info? elem).map (fun i=>(i.zero,i.size,i.bytes))=some (some z,1,bytes))
  (g dLen dCap:Nat) (sp:Option Addr) (sLen sCap:Nat) (hd:a.eval d=.slice (some ⟨g,0,none⟩) dLen dCap) (hs:a.eval s=.slice sp sLen sCap)
  (cur:List Value) (t:TypeId) (hg:Blk w g t cur) (cs:List Value) (hn:cs.length=sLen) (nz:sLen<=dLen) (hle':dLen<=cur.length)
  {Ts:TypeId} (hsrc:0<sLen->∃ b off,sp=some ⟨b,off,none⟩/\bO Ts w b off cs) (h1:∀ v∈cs,v.oneCell'=true) (B:Nat) (hBg:B<=g)
  (h:∀ w',Blk w' g t (cs++cur.drop cs.length)->Below B w w'->wpList P ops Q rest (a.put o.dst (goInt sLen)) w') :
  wpList P ops Q (o::rest) a w:=by
 have hsz:(P.info? elem).map (·.size)=some 1:=by
  obtain⟨i,hi,_,h2,_⟩:=info_parts hi;rw [hi];simp [h2]
 refine wpList_copy_splice hgd d s dT sT ho elem hu hsz (some ⟨g,0,none⟩) sp dLen dCap sLen sCap hd hs g 0 cur t hg cs (by rw [hn];exact (Nat.min_eq_left nz).symm) ?_ (by omega) h1 B w (Below.refl _ _) hBg ?_
 ·intro hp;obtain⟨b,off,rfl,hc⟩:=hsrc (by omega);refine⟨rfl,_,rfl,fun j v hj=>?_⟩
  have hjl:j<cs.length:=by
   rcases Nat.lt_or_ge j cs.length with h'|h'
   ·exact h'
   ·rw [List.getElem?_eq_none h'] at hj;cases hj
  have:=hc.cell j hjl;rw [hj] at this;by_cases h0:j=0
  ·subst h0;simpa [Addr.add] using this
  ·simpa [Addr.add,h0] using this
 ·intro w' hg' hb';have hg'':=hg'.out;rw [show ((cs.length:Nat):Int)=(sLen:Int) by rw [hn]] at *;refine h w' ?_ hb';unfold Blk;rw [hg''];simp [splice]
theorem gZ {P:Prop} (h:P:=by generalize A.eval=ev at *;go_simp):P:=h
theorem zH {p:Prop} (h:p):Hid p:=Lib.hid h
theorem eF (A:Act) (f:FuncId):A.eval (.func f)=.func (.func f) #[] #[]:=rfl
theorem eC (A:Act) (c:Value):A.eval (.const c)=c:=rfl
theorem eT (t:Nat) {A:Act} {v:Value} (h:A.eval (.tmp t)=v):A.eval (.tmp t)=v:=h
def At (T:TypeId) (w:World) (ao:Option Addr) (cs:List Value):Prop:=0<cs.length->∃ b off,ao=some ⟨b,off,none⟩/\bO T w b off cs
theorem At.on {T:TypeId} {w w':World} {ao:Option Addr} {cs:List Value} (h:At T w ao cs) (hb:Below w.heap.size w w'):At T w' ao cs:=fun hp =>
 let ⟨b,off,e,hc⟩:=h hp;⟨b,off,e,hc.on hb⟩
theorem At.stored {T T':TypeId} {w w':World} {ao:Option Addr} {R:Nat} {cs cs':List Value} (h:At T w ao cs) (hg:w.grownBy w' (some R)) (hB:Blk w R T' cs') (hT:T≠T'):At T w' ao cs:=fun hp =>
 let ⟨b,off,e,hc⟩:=h hp;⟨b,off,e,hc.stored hg hB hT⟩
theorem At.nil {T:TypeId} {w:World} {ao:Option Addr}:At T w ao []:=fun h=>absurd h (by simp)
theorem Blk.at {w:World} {g:Nat} {T:TypeId} {cs:List Value} (h:Blk w g T cs):At T w (some ⟨g,0,none⟩) cs:=fun _=>⟨g,0,rfl,h.cells⟩
theorem bO.take {T:TypeId} {w:World} {b off:Nat} {cs:List Value} (h:bO T w b off cs) (k:Nat):bO T w b off (cs.take k):=by
 obtain⟨C,fr,h1,h2⟩:=h;refine⟨C,fr,h1,fun j hj=>?_⟩;simp only [List.length_take] at hj;rw [h2 j (by omega),List.getElem?_take,if_pos (by omega)]
theorem bO.drop {T:TypeId} {w:World} {b off:Nat} {cs:List Value} (h:bO T w b off cs) (k:Nat):bO T w b (off+k) (cs.drop k):=by
 obtain⟨C,fr,h1,h2⟩:=h;refine⟨C,fr,h1,fun j hj=>?_⟩;simp only [List.length_drop] at hj;rw [Nat.add_assoc,h2 (k+j) (by omega),List.getElem?_drop]
theorem At.take {T:TypeId} {w:World} {ao:Option Addr} {cs:List Value} (h:At T w ao cs) (k:Nat):At T w ao (cs.take k):=fun hp=>by
 obtain⟨b,off,e,hc⟩:=h (by simp only [List.length_take] at hp;omega);exact⟨b,off,e,hc.take k⟩
def uc (l:List Int):List Value:=l.map (Value.int .u32)
theorem OT (l:List Int) (j:Nat) (h:j<l.length):(uc l)[j]?=some (.int .u32 (l.getD j 0)):=by simp [uc,h]
theorem eQ (l:List Int):(uc l).length=l.length:=by simp [uc]
theorem OU (l:List Int):∀ v∈uc l,v.oneCell'=true:=ints_oneCell _ _
theorem RS (l:List Int) (k:Nat):uc (l.take k)=(uc l).take k:=by simp [uc,List.map_take]
theorem Blk.uset {w:World} {g:Nat} {T:TypeId} {l:List Int} (h:Blk w g T (uc l)) (j:Nat) (x:Int):Blk (w.setCell ⟨g,j,none⟩ (.int .u32 x)) g T (uc (l.set j x)):=by
 have:=h.set j (.int .u32 x);simpa [uc,List.map_set] using this
theorem Blk.ucell {w:World} {g:Nat} {T:TypeId} {l:List Int} (h:Blk w g T (uc l)) (j:Nat) (hj:j<l.length):w.cell? ⟨g,j,none⟩=some (.int .u32 (l.getD j 0)):=by
 rw [h.cell,OT _ _ hj]
theorem bO.ucell {T:TypeId} {w:World} {b off:Nat} {l:List Int} (h:bO T w b off (uc l)) (j:Nat) (hj:j<l.length):w.cell? ⟨b,off+j,none⟩=some (.int .u32 (l.getD j 0)):=by
 rw [h.cell j (by rw [eQ];exact hj),OT _ _ hj]
abbrev uT:TypeId:=104
def dH (w:World) (v:Value) (l:List Int):Prop:=∃ ao cap,v=.slice ao l.length cap/\l.length<=cap/\aH l/\At uT w ao (uc l)
theorem dH.on {w w':World} {v:Value} {l:List Int} (h:dH w v l) (hb:Below w.heap.size w w'):dH w' v l :=
 let ⟨ao,cap,e,h1,h2,h3⟩:=h;⟨ao,cap,e,h1,h2,h3.on hb⟩
theorem dH.stored {w w':World} {v:Value} {l:List Int} {R:Nat} {T':TypeId} {cs':List Value} (h:dH w v l) (hg:w.grownBy w' (some R)) (hB:Blk w R T' cs') (hT:uT≠T'):dH w' v l :=
 let ⟨ao,cap,e,h1,h2,h3⟩:=h;⟨ao,cap,e,h1,h2,h3.stored hg hB hT⟩
theorem dH.limbs {w:World} {v:Value} {l:List Int} (h:dH w v l):aH l:=let ⟨_,_,_,_,h2,_⟩:=h;h2
theorem dH.nil {w:World}:dH w (.slice none 0 0) []:=⟨none,0,rfl,Nat.le_refl _,aH.nil,At.nil⟩
theorem Blk.u32s {w:World} {g:Nat} {l:List Int} (h:Blk w g uT (uc l)) (hl:aH l):dH w (.slice (some ⟨g,0,none⟩) l.length l.length) l :=
 ⟨_,_,rfl,Nat.le_refl _,hl,h.at⟩
def iU (l:List Int):Prop:=∀ h:l≠[],l.getLast h≠0
theorem iU.low {l:List Int} (h:iU l) (hl:aH l) (hp:0<l.length):bL ^ (l.length-1)<=ah l:=by
 have hne:l≠[]:=by intro e;subst e;simp at hp
 have e:=(List.dropLast_concat_getLast hne);have h1:=h hne;have h2:=hl (l.getLast hne) (List.getLast_mem hne);have h3:aH l.dropLast:=fun x hx=>hl x (List.dropLast_subset l hx);have h4:=bg h3
 have h5:ah l=ah l.dropLast+bL ^ (l.length-1)*l.getLast hne:=by
  conv=>lhs;rw [<- e]
  rw [ik];simp [ah]
 have h6:0<bL ^ (l.length-1):=Int.pow_pos eO;have h7:bL ^ (l.length-1)*1<=bL ^ (l.length-1)*l.getLast hne:=Int.mul_le_mul_of_nonneg_left (by omega) (by omega);omega
theorem iU.pos {l:List Int} (h:iU l) (hl:aH l) (hp:0<l.length):0<ah l:=by
 have:=h.low hl hp;have h6:0<bL ^ (l.length-1):=Int.pow_pos eO;omega
theorem Jl {m n:Nat} (h:bL ^ m<bL ^ n):m<n:=by
 rcases Nat.lt_or_ge m n with h'|h'
 ·exact h'
 ·exfalso;obtain⟨d,rfl⟩:=Nat.exists_eq_add_of_le h';have h1:0<bL ^ n:=Int.pow_pos eO;have h2:0<bL ^ d:=Int.pow_pos eO;rw [Int.pow_add] at h;have:bL ^ n*1<=bL ^ n*bL ^ d:=Int.mul_le_mul_of_nonneg_left (by omega) (by omega);omega
theorem iU.len_le {l:List Int} (h:iU l) (hl:aH l) {n:Nat} (hb:ah l<bL ^ n):l.length<=n:=by
 rcases Nat.eq_zero_or_pos l.length with h0|hp
 ·omega
 ·have:=h.low hl hp;have:=Jl (show bL ^ (l.length-1)<bL ^ n by omega);omega
def fZ (neg:Bool) (n:Int):Int:=if neg then -n else n
def aZ (w:World) (neg:Bool) (m:Value) (z:Int):Prop:=∃ l,dH w m l/\iU l/\(neg=true->0<l.length)/\z=fZ neg (ah l)
theorem aZ.on {w w':World} {neg:Bool} {m:Value} {z:Int} (h:aZ w neg m z) (hb:Below w.heap.size w w'):aZ w' neg m z :=
 let ⟨l,h1,h2⟩:=h;⟨l,h1.on hb,h2⟩
theorem aZ.stored {w w':World} {neg:Bool} {m:Value} {z:Int} {R:Nat} {T':TypeId} {cs':List Value} (h:aZ w neg m z) (hg:w.grownBy w' (some R)) (hB:Blk w R T' cs') (hT:uT≠T'):aZ w' neg m z :=
 let ⟨l,h1,h2⟩:=h;⟨l,h1.stored hg hB hT,h2⟩
def aI (n:Nat):Nat:=if n=0 then 0 else n.log2+1
theorem oh (n:Nat):n<2 ^ aI n:=by
 unfold aI;split
 ·subst n;decide
 ·exact Nat.lt_log2_self
theorem jH {n k:Nat} (h:n<2 ^ k):aI n<=k:=by
 unfold aI;split
 ·omega
 ·rename_i h0;have:=Nat.log2_lt h0 |>.2 h;omega
theorem iC {m n:Nat} (h:m<=n):aI m<=aI n:=jH (Nat.lt_of_le_of_lt h (oh n))
theorem jV (m n:Nat):aI (m*n)<=aI m+aI n:=by
 apply jH;rw [Nat.pow_add];exact Nat.mul_lt_mul'' (oh m) (oh n)
theorem M8 (m n:Nat):aI (m+n)<=max (aI m) (aI n)+1:=by
 apply jH;have h1:=oh m;have h2:=oh n;have h3:2 ^ aI m<=2 ^ max (aI m) (aI n):=Nat.pow_le_pow_right (by decide) (by omega);have h4:2 ^ aI n<=2 ^ max (aI m) (aI n):=Nat.pow_le_pow_right (by decide) (by omega);rw [Nat.pow_succ];omega
def iT:Nat:=1099511627776
theorem KZ (n:Nat):bL ^ n=((2 ^ (32*n):Nat):Int):=by
 rw [Nat.pow_mul];simp [bL]
theorem aZ.len {l:List Int} (nl:iU l) (hl:aH l) {K:Nat} (hb:aI (ah l).natAbs<=32*K):l.length<=K:=by
 apply nl.len_le hl;have h1:=oh (ah l).natAbs;have h2:=bg hl;have h3:2 ^ aI (ah l).natAbs<=2 ^ (32*K):=Nat.pow_le_pow_right (by decide) hb;rw [KZ];omega
theorem dZ (neg:Bool) (n:Int):(fZ neg n).natAbs=n.natAbs:=by cases neg <;> simp [fZ]
theorem aZ.open {w:World} {neg:Bool} {m:Value} {z:Int} (h:aZ w neg m z) (hz:aI z.natAbs<=iT) :
  ∃ l ao cap,m=.slice ao l.length cap/\l.length<=cap/\l.length<=34359738368/\aH l/\At uT w ao (uc l)/\iU l/\(neg=true->0<l.length)/\z=fZ neg (ah l):=by
 obtain⟨l,⟨ao,cap,h1,h2,h3,h4⟩,h5,h6,h7⟩:=h;refine⟨l,ao,cap,h1,h2,?_,h3,h4,h5,h6,h7⟩;exact aZ.len h5 h3 (by rw [h7,dZ] at hz;unfold iT at hz;omega)
theorem aZ.shape {w:World} {neg:Bool} {m:Value} {z:Int} (h:aZ w neg m z):∃ ao n cap,m=.slice ao n cap/\(n=0↔z=0)/\n<=cap:=by
 obtain⟨l,⟨ao,cap,h1,h2,h3,h4⟩,h5,h6,h7⟩:=h;refine⟨ao,l.length,cap,h1,?_,h2⟩;constructor
 ·intro h;have:l=[]:=List.eq_nil_of_length_eq_zero h;subst this;rw [h7];cases neg <;> rfl
 ·intro h;rcases Nat.eq_zero_or_pos l.length with h'|h'
  ·exact h'
  ·have:=h5.pos h3 h';rw [h7] at h;unfold fZ at h;split at h <;> omega
theorem dH.one {w:World} {v:Value} {l:List Int} (h:dH w v l):v.oneCell'=true:=by obtain⟨ao,cap,rfl,_⟩:=h;rfl
theorem aZ.ones {w:World} {neg:Bool} {m:Value} {z:Int} (h:aZ w neg m z):(#[Value.bool neg,m]).all (·.oneCell')=true:=by
 obtain⟨_,⟨ao,cap,rfl,_⟩,_⟩:=h;simp [Value.oneCell']
theorem aj {P:Program} {w:World} {ops:Array Oper} {rest:List Oper} {o:Oper} {a:Act} {Q:Exit->Act->World->Prop}
  (hg:o.guard=none) (x ix:Operand) (t:TypeId) (hop:o.op=Op.indexAddr t x ix) (e:TypeId) (ht:P.underlying t=some (.slice e)) (z:Option Value) (size bytes:Nat)
  (hi:(P.info? e).map (fun i=>(i.zero,i.size,i.bytes))=some (z,size,bytes)) (ao:Option Addr) (len cap:Nat) (hx:a.eval x=.slice ao len cap) (k:IntKind) (i:Int) (hix:a.eval ix=.int k i)
  (j:Nat) (hij:i=(j:Int)) (hj:j<len) (b off:Nat) (hao:ao=some ⟨b,off,none⟩)
  (h:wpList P ops Q rest (a.put o.dst (.pointer (some ⟨b,off+j*size,none⟩))) w):wpList P ops Q (o::rest) a w:=by
 refine wpList_plain hg fun K hK=>?_;subst hao hij
 have hs:∃ i,P.info? e=some i/\i.size=size:=by
  cases hq:P.info? e with
  | none=>rw [hq] at hi;cases hi
  | some i=>rw [hq] at hi;simp at hi;exact⟨i,rfl,hi.2.1⟩
 obtain⟨ii,hii,hsz⟩:=hs
 have hrun:(Instr.indexAt t (.slice (some ⟨b,off,none⟩) len cap) (.int k j)).run P w=.ok (.pointer (some ⟨b,off+j*size,none⟩)) w:=by
  have hp:P.underlying t=some (.slice (P.elem t)):=by
   simp [Program.elem,ht]
  rw [run_indexAt_slice (h:=hp),if_pos (by omega)];have he:P.elem t=e:=by simp [Program.elem,ht]
  simp only [he];simp [Go.sizeOf,typeInfo,hii,hsz,Addr.add]
 unfold Oper.wp;simp [execOp,hop,hx,hix,hrun,Result.andThen];exact hK _ _ h
end Q
