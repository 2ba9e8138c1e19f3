/- Short steps. -/
import Derived.Test.YtopclbeomcggiaaGreatWK2
set_option linter.unusedVariables false
set_option linter.unusedSimpArgs false
set_option maxHeartbeats 16000000
set_option maxRecDepth 100000
section
namespace Q
open Go Go.RowKit Go.Proofs.YtopclbeomcggiaaGreat
theorem cV{P:Program}{f:FuncId}{args:Array Value}{w:World}{K i:Ending->World->Prop}(h:Calls P f args w K)
  (m:∀e w',K e w'->i e w':=by first|(rintro e w' ⟨v,rfl,d,b⟩;exact⟨_,rfl,b,d⟩)|(rintro e w' ⟨rfl,hb⟩;exact⟨_,rfl,hb,rfl⟩)|(rintro e w' ⟨n,m,rfl,d,b⟩;exact⟨_,rfl,b,n,m,rfl,d⟩)|(rintro e w' ⟨cs,rfl,d,b⟩;exact⟨_,rfl,b,cs,rfl,d⟩)):Calls P f args w i:=h.mono m
section
variable {g:Option Nat} {T:TypeId} {w:World} {o:Oper} {A:Act} {i:Nat} {pu fr:Nat->Bool} {φ:Nat->Value->World->Prop} {R:Exit->Act->World->Prop} {P:Program} {ops:List Oper} {Y:Prop} {c:Value}
abbrev GA (ops:List Oper) (o:Oper) (A:Act) (P:Program) (w:World) (g:Option Nat) (T:TypeId) (pu fr:Nat->Bool) (φ:Nat->Value->World->Prop) (i:Nat) (R:Exit->Act->World->Prop) (Y:Prop):Prop:=H9 ops o A (o.wp P A w (jW (Lr g T) pu fr φ o i A w) R) Y
theorem fT(t:Nat){A:Act}{L:World->World->Prop}{f:af L}(h:f.p (A.eval (.tmp t)) w):∃v,A.eval (.tmp t)=v/\f.p v w:=⟨_,rfl,h⟩
theorem xM{x:Operand}(b:o.op=.move x)(h:φ i (A.eval x) w)(hg:o.guard=none:=by rfl)(hp:pu i=true:=by rfl):GA ops o A P w g T pu fr φ i R Y:=ae hg (Ib b hp h)
theorem yM{x:Operand}{j d:Nat}{b:Bool}(hv:A.eval (.tmp d)=.bool b)(k:o.op=.move x)(h:φ i (A.eval x) w)(hg:o.guard=some (j,b):=by rfl)(hd:bg ops j=some d:=by rfl)(hp:pu i=true:=by rfl):GA ops o A P w g T pu fr φ i R Y:=aQ hg hd hv (Ib k hp h)
theorem pZ(h:φ i c w)(hg:o.guard=none:=by rfl)(hp:pu i=true:=by rfl)(b:(execOp A.eval o).run P w=.ok (.value c) w:=by generalize A.eval=ev at *;go_simp):GA ops o A P w g T pu fr φ i R Y:=ae hg (aB hp h b)
theorem yZ{j d:Nat}{b:Bool}(hv:A.eval (.tmp d)=.bool b)(h:φ i c w)(hg:o.guard=some (j,b):=by rfl)(hd:bg ops j=some d:=by rfl)(hp:pu i=true:=by rfl)(k:(execOp A.eval o).run P w=.ok (.value c) w:=by generalize A.eval=ev at *;go_simp):GA ops o A P w g T pu fr φ i R Y:=aQ hg hd hv (aB hp h k)
theorem cP{f:FuncId}{args:Array Value}{K:Ending->World->Prop}(h:Calls P f args w K)(hg:o.guard=none:=by rfl)(hp:pu i=false:=by rfl)(hf:fr i=false:=by rfl)(j:(execOp A.eval o).run P w=.ok (.enter f args) w:=by generalize A.eval=ev at *;go_simp)
  (m:∀e w',K e w'->∃v,e=.returned v/\Below w.heap.size w w'/\φ i v w':=by first|(rintro e w' ⟨v,rfl,d,b⟩;exact⟨_,rfl,b,d⟩)|(rintro e w' ⟨rfl,hb⟩;exact⟨_,rfl,hb,rfl⟩)|(rintro e w' ⟨n,m,rfl,d,b⟩;exact⟨_,rfl,b,n,m,rfl,d⟩)|(rintro e w' ⟨cs,rfl,d,b⟩;exact⟨_,rfl,b,cs,rfl,d⟩)):GA ops o A P w g T pu fr φ i R Y:=ae hg (dI hp hf j (h.mono m))
theorem cY{f:FuncId}{args:Array Value}{K:Ending->World->Prop}{j d:Nat}{b:Bool}(hv:A.eval (.tmp d)=.bool b)(h:Calls P f args w K)(hg:o.guard=some (j,b):=by rfl)(hd:bg ops j=some d:=by rfl)(hp:pu i=false:=by rfl)(hf:fr i=false:=by rfl)(p:(execOp A.eval o).run P w=.ok (.enter f args) w:=by generalize A.eval=ev at *;go_simp)
  (m:∀e w',K e w'->∃v,e=.returned v/\Below w.heap.size w w'/\φ i v w':=by first|(rintro e w' ⟨v,rfl,l,k⟩;exact⟨_,rfl,k,l⟩)|(rintro e w' ⟨rfl,hb⟩;exact⟨_,rfl,hb,rfl⟩)|(rintro e w' ⟨n,m,rfl,l,k⟩;exact⟨_,rfl,k,n,m,rfl,l⟩)|(rintro e w' ⟨cs,rfl,l,k⟩;exact⟨_,rfl,k,cs,rfl,l⟩)):GA ops o A P w g T pu fr φ i R Y:=aQ hg hd hv (dI hp hf p (h.mono m))
theorem xI{t el:TypeId}{x e:Operand}{size n c:Nat}{k:IntKind}{z:Int}(d:o.op=.indexAddr t x e)(q:P.underlying t=some (.slice el))(b off j:Nat)(m:j<n)(r:A.eval x=.slice (some ⟨b,off,none⟩) n c)(l:A.eval e=.int k z)
  (hp:pu i=true:=by rfl) (h:φ i (.pointer (some ⟨b,off+j*size,none⟩)) w:=by rfl) (p:(P.info? el).map (·.size)=some size:=by kernel_rfl) (hz:z=(j:Int):=by first|rfl|simp|omega):o.wp P A w (jW (Lr g T) pu fr φ o i A w) R :=
 aB hp h (Gp d (by rw[r,l];exact EH q p w b off n c j k z hz m))
theorem xL{t:TypeId}{x:Operand}{b off m:Nat}{cs:List Value}{d:TypeDesc}(e:o.op=.load t x)(hc:w.rangeAt b off cs)(hu:P.underlying t=some d)(k:cs.length=m)(l:A.eval x=.pointer (some ⟨b,off,none⟩))
  (hp:pu i=true:=by rfl) (h:φ i (.agg cs.toArray) w:=by rfl) (hd:d.isRow=true:=by rfl) (j:(P.info? t).map (·.size)=some m:=by kernel_rfl):o.wp P A w (jW (Lr g T) pu fr φ o i A w) R :=
 aB hp h (IB e (by rw[l];exact run_loadAt_mid w _ _ _ _ _ hc hu hd (by rw[k];exact j)))
theorem pI{t el:TypeId}{x e:Operand}{size n c:Nat}{k:IntKind}{z:Int}(d:o.op=.indexAddr t x e)(q:P.underlying t=some (.slice el))(b off j:Nat)(m:j<n)(r:A.eval x=.slice (some ⟨b,off,none⟩) n c)(l:A.eval e=.int k z)
  (hg:o.guard=none:=by rfl) (hp:pu i=true:=by rfl) (h:φ i (.pointer (some ⟨b,off+j*size,none⟩)) w:=by rfl) (p:(P.info? el).map (·.size)=some size:=by kernel_rfl) (hz:z=(j:Int):=by first|rfl|simp|omega):GA ops o A P w g T pu fr φ i R Y:=ae hg (xI d q b off j m r l hp h p hz)
theorem pL{t:TypeId}{x:Operand}{b off m:Nat}{cs:List Value}{d:TypeDesc}(e:o.op=.load t x)(hc:w.rangeAt b off cs)(hu:P.underlying t=some d)(k:cs.length=m)(l:A.eval x=.pointer (some ⟨b,off,none⟩))
  (hg:o.guard=none:=by rfl) (hp:pu i=true:=by rfl) (h:φ i (.agg cs.toArray) w:=by rfl) (hd:d.isRow=true:=by rfl) (j:(P.info? t).map (·.size)=some m:=by kernel_rfl):GA ops o A P w g T pu fr φ i R Y:=ae hg (xL e hc hu k l hp h hd j)
end
end Q
namespace Go.Proofs.YtopclbeomcggiaaGreat
open Go Go.RowKit Q
section
variable {g:Option Nat} {T:TypeId} {w:World} {o:Oper} {A:Act} {i:Nat} {pu fr:Nat->Bool} {φ:Nat->Value->World->Prop} {R:Exit->Act->World->Prop} {x:Operand} {b off:Nat}
theorem wV(d:o.op=.fieldAddr 43 x 0)(e:A.eval x=.pointer (some ⟨b,off,none⟩))(hp:pu i=true:=by rfl)(h:φ i (.pointer (some ⟨b,off,none⟩)) w:=by rfl):o.wp Tryz.prog A w (jW (Lr g T) pu fr φ o i A w) R :=
 aB hp h (xx d (by rw[e];exact Ed _ _ _))
theorem EU(d:o.op=.fieldAddr 43 x 1)(e:A.eval x=.pointer (some ⟨b,off,none⟩))(hp:pu i=true:=by rfl)(h:φ i (.pointer (some ⟨b,off+4,none⟩)) w:=by rfl):o.wp Tryz.prog A w (jW (Lr g T) pu fr φ o i A w) R :=
 aB hp h (xx d (by rw[e];exact Ee _ _ _))
end
end Go.Proofs.YtopclbeomcggiaaGreat
end
section
namespace Q
open Go Go.RowKit Go.Proofs.YtopclbeomcggiaaGreat
def bX.ratE (q:Rat) (c:Int):bX:=bX.of (λv w=>∃x,v=.tuple #[x,.int .i64 c]/\bM w x q) (λ_ _ _ hb ⟨x,e,h⟩=>⟨x,e,h.on hb⟩)
def af.ratE {g:Option Nat} {T:TypeId} (hT:uT≠T) (q:Rat) (c:Int):af (Lr g T):=af.of (λv w=>∃x,v=.tuple #[x,.int .i64 c]/\bM w x q) (λ_ _ _ hb ⟨x,e,h⟩=>⟨x,e,h.lr hb hT⟩)
end Q
namespace Go.Proofs.YtopclbeomcggiaaGreat
open Go.RowKit Q
def AQ (w:World) (q:Rat) (c:Int) (e:Ending) (w':World):Prop:=∃v,e=.returned (.tuple #[v,.int .i64 c])/\bM w' v q/\Below w.heap.size w w'
theorem nG{P:Program}{fn:Func}{p u:Tmp}{ty:TypeId}(h:fn.results=#[.cell p ty,.tmp u])(tmps:Array Value)(w:World)(g:Nat){d:TypeDesc}(hu:P.underlying ty=some d)
  (hd:(match d with|.struct _|.array _ _=>true|_=>false)=true) {T:TypeId} {c:List Value} (hp:tmps.getD p undef=.pointer (some ⟨g,0,none⟩)) (i:Blk w g T c)
  (b:(P.info? ty).map (·.size)=some c.length) :
  (results fn tmps).run P w=.ok (.tuple #[.agg c.toArray,tmps.getD u undef]) w:=by
 have e:tmps[p]?.getD undef=.pointer (some ⟨g,0,none⟩):=by simpa using hp
 have e1:=run_loadVar_row (P:=P) w g T ty c.toArray (0,0) d i hu hd (by simpa using b);simp[results,h,e,asAddr,Sem.run_bind,e1]
theorem Tn(n1 n2:Bool)(m1 m2:Value)(z1 z2:Int)(w:World)(h1:aZ w n1 m1 z1)(h2:aZ w n2 m2 z2)(c1:aF z1.natAbs<=jl/4)(c2:aF z2.natAbs<=jl/4)(hz:z2≠0) :
  Calls Tryz.prog 83 #[.agg #[.bool n1,m1],.agg #[.bool n2,m2]] w (AQ w (Rat.divInt z1 z2) 0):=by
 obtain⟨a1,k1,q1,rfl,-,-⟩:=h1.shape;obtain⟨a2,k2,q2,rfl,-,-⟩:=h2.shape;have k:(jm z2==0)=false:=by unfold jm;rw[if_neg hz];split<;>rfl
 go_enter Tryz.func83,Tryz.ntmps83
 go_upto_region 1 with (fail)
 refine rQ λW hb0 B1 B2 B3 j=>?_;have x1:=B1.at1 0 _ rfl;have x2:=B1.at1 1 _ rfl;have y1:=B2.at1 0 _ rfl;have y2:=B2.at1 1 _ rfl
 go_upto_region 3 with (go_at_call 109;refine(BP _ _ _ _ (h2.on hb0)).mono ?_;rintro e w1 ⟨rfl,hb1⟩)
 have b:=hb0.trans (hb1.mono hb0.size);have C1:=B1.on hb1;have C2:=B2.on hb1;have C3:=B3.on hb1;clear x1 x2 y1 y2;have x1:=C1.at1 0 _ rfl;have x2:=C1.at1 1 _ rfl;have y1:=C2.at1 0 _ rfl;have y2:=C2.at1 1 _ rfl
 go_wp2_with (first
  | (go_at_call 110;refine(vR _ _ _ _ _ _ _ (h1.on b) (h2.on b) c1 c2 hz).mono ?_;rintro e w2 ⟨v,rfl,hv,hb2⟩;obtain⟨t1,b1,g1,d1,t2,b2,g2,d2,rfl,j1,j2⟩:=hv)
  | (refine az rfl _ (.tmp 4) (.tmp 12) rfl _ _ _ _ rfl rfl (C3.on hb2) rfl dA dJ ?_;intro w3 R i))
 have hC:=C3.on hb2;have d:=b.trans (hb2.mono b.size);refine bodyPost_ret (nG rfl _ _ _ Tryz.underlying41 rfl rfl R dA) rfl ⟨_,rfl,bM.stored ⟨t1,b1,g1,d1,t2,b2,g2,d2,rfl,j1,j2⟩ i hC dM,d.trans ((aH i (Nat.le_of_lt hC.lt) (nL _)).mono oM)⟩
theorem IE(v1 v2:Value)(p q:Rat)(w:World)(h1:bM w v1 p)(h2:bM w v2 q)(k1:Rk p)(k2:Rk q)(hz:q≠0) :
  Calls Tryz.prog 46 #[v1,v2] w (AQ w (p/q) 0):=by
 rw[<-Ci];obtain⟨s1,a1,l1,c1,s2,a2,l2,c2,rfl,i1,i2⟩:=h1;obtain⟨s3,a3,l3,c3,s4,a4,l4,c4,rfl,i3,i4⟩:=h2;have s:aF (p.num*(q.den:Int)).natAbs<=jl/4:=by have:=rT k1 k2;unfold jl at *;omega
 have j:aF ((p.den:Int)*q.num).natAbs<=jl/4:=by have:=rT k2 k1;rw[Int.mul_comm];unfold jl at *;omega
 have dz:(p.den:Int)*q.num≠0:=by
  intro h;rcases Int.mul_eq_zero.1 h with h|h
  ·have:=p.den_nz;omega
  ·exact hz (Rat.num_eq_zero.1 h)
 go_enter Tryz.func46,Tryz.ntmps46
 go_upto_region 1 with (fail)
 refine rQ λW hb0 B1 B2 B3 u=>?_;replace i1:=i1.on hb0;replace i2:=i2.on hb0;replace i3:=i3.on hb0;replace i4:=i4.on hb0;refine iL mixed [.eq (.pointer (some ⟨w.heap.size,0,none⟩)),.eq (.agg #[.bool s1,.slice a1 l1 c1]),.eq (.pointer (some ⟨w.heap.size+1,2,none⟩)),.eq (.agg #[.bool s4,.slice a4 l4 c4]),.ints2 (p.num) ((q.den:Int)),.int ((p.num*(q.den:Int))),.eq (.pointer (some ⟨w.heap.size,2,none⟩)),.eq (.agg #[.bool s2,.slice a2 l2 c2]),.eq (.pointer (some ⟨w.heap.size+1,0,none⟩)),.eq (.agg #[.bool s3,.slice a3 l3 c3]),.ints2 ((p.den:Int)) (q.num),.int (((p.den:Int)*q.num)),.ratE (Rat.divInt (p.num*(q.den:Int)) ((p.den:Int)*q.num)) 0,.rat (Rat.divInt (p.num*(q.den:Int)) ((p.den:Int)*q.num)),.eq (.int .i64 0)] [6,7,8,9,10,11,12,13,14,15,16,17,18,19,20] rfl rfl rfl ⟨?_,?_,?_,?_,?_,?_,?_,?_,?_,?_,?_,?_,?_,?_,?_,trivial⟩ ?_
 ·intro A w1 hA hb he;have h2:A.eval (.tmp 2)=.pointer (some ⟨w.heap.size,0,none⟩):=hA 2 rfl;refine aL rfl ?_;exact gZ
 ·intro A w1 hA hb he;have h6:A.eval (.tmp 6)=.pointer (some ⟨w.heap.size,0,none⟩):=he.1 rfl;have c0:=(B1.on hb).at1 0 _ rfl;have c1:=(B1.on hb).at1 1 _ rfl;refine aL rfl ?_;exact gZ
 ·intro A w1 hA hb he;have h3:A.eval (.tmp 3)=.pointer (some ⟨w.heap.size+1,0,none⟩):=hA 3 rfl;refine aL rfl ?_;exact gZ
 ·intro A w1 hA hb he;have h8:A.eval (.tmp 8)=.pointer (some ⟨w.heap.size+1,2,none⟩):=he.1 rfl;have c0:=(B2.on hb).at1 2 _ rfl;have c1:=(B2.on hb).at1 3 _ rfl;refine aL rfl ?_;exact gZ
 ·intro A w1 hA hb he;have h7:A.eval (.tmp 7)=.agg #[.bool s1,.slice a1 l1 c1]:=he.1 rfl;have h9:A.eval (.tmp 9)=.agg #[.bool s4,.slice a4 l4 c4]:=he.2.1 rfl;have d:=i1.on hb;obtain⟨_,_,_,ex,-⟩:=d.shape;cases ex;have i:=i4.on hb;obtain⟨_,_,_,k,-⟩:=i.shape;cases k;exact lX d i (by generalize A.eval=ev at *;go_simp)
 ·intro A w1 hA hb he;have f10:((.ints2 (p.num) ((q.den:Int)):bX)).p (A.eval (.tmp 10)) w1:=he.1 rfl;obtain⟨v10,h10⟩:∃v,A.eval (.tmp 10)=v:=⟨_,rfl⟩;rw[h10]at f10;have hf0:=eF A 84;refine dh (f:=84) (args:=#[v10]) ?_ ?_
  ·exact gZ
  ·refine(mW _ _ _ _ f10 k1.num k2.den).mono ?_;rintro e w' ⟨neg,m,rfl,b,hb⟩;exact⟨_,rfl,hb,neg,m,rfl,b⟩
 ·intro A w1 hA hb he;have h2:A.eval (.tmp 2)=.pointer (some ⟨w.heap.size,0,none⟩):=hA 2 rfl;refine aL rfl ?_;exact gZ
 ·intro A w1 hA hb he;have h12:A.eval (.tmp 12)=.pointer (some ⟨w.heap.size,2,none⟩):=he.1 rfl;have c0:=(B1.on hb).at1 2 _ rfl;have c1:=(B1.on hb).at1 3 _ rfl;refine aL rfl ?_;exact gZ
 ·intro A w1 hA hb he;have h3:A.eval (.tmp 3)=.pointer (some ⟨w.heap.size+1,0,none⟩):=hA 3 rfl;refine aL rfl ?_;exact gZ
 ·intro A w1 hA hb he;have h14:A.eval (.tmp 14)=.pointer (some ⟨w.heap.size+1,0,none⟩):=he.1 rfl;have c0:=(B2.on hb).at1 0 _ rfl;have c1:=(B2.on hb).at1 1 _ rfl;refine aL rfl ?_;exact gZ
 ·intro A w1 hA hb he;have h13:A.eval (.tmp 13)=.agg #[.bool s2,.slice a2 l2 c2]:=he.1 rfl;have h15:A.eval (.tmp 15)=.agg #[.bool s3,.slice a3 l3 c3]:=he.2.1 rfl;have d:=i2.on hb;obtain⟨_,_,_,ex,-⟩:=d.shape;cases ex;have i:=i3.on hb;obtain⟨_,_,_,k,-⟩:=i.shape;cases k;exact lX d i (by generalize A.eval=ev at *;go_simp)
 ·intro A w1 hA hb he;have f16:((.ints2 ((p.den:Int)) (q.num):bX)).p (A.eval (.tmp 16)) w1:=he.1 rfl;obtain⟨v16,h16⟩:∃v,A.eval (.tmp 16)=v:=⟨_,rfl⟩;rw[h16]at f16;have hf0:=eF A 84;refine dh (f:=84) (args:=#[v16]) ?_ ?_
  ·exact gZ
  ·refine(mW _ _ _ _ f16 k1.den k2.num).mono ?_;rintro e w' ⟨neg,m,rfl,b,hb⟩;exact⟨_,rfl,hb,neg,m,rfl,b⟩
 ·intro A w1 hA hb he;have f11:((.int ((p.num*(q.den:Int))):bX)).p (A.eval (.tmp 11)) w1:=he.1 rfl;obtain⟨v11,h11⟩:∃v,A.eval (.tmp 11)=v:=⟨_,rfl⟩;rw[h11]at f11;have f17:((.int (((p.den:Int)*q.num)):bX)).p (A.eval (.tmp 17)) w1:=he.2.1 rfl;obtain⟨v17,h17⟩:∃v,A.eval (.tmp 17)=v:=⟨_,rfl⟩;rw[h17]at f17;have hf0:=eF A 83;refine dh (f:=83) (args:=#[v11,v17]) ?_ ?_
  ·exact gZ
  ·obtain⟨n11,m11,rfl,i11⟩:=f11;obtain⟨n17,m17,rfl,i17⟩:=f17;refine(Tn _ _ _ _ _ _ _ i11 i17 s j dz).mono ?_;rintro e w' ⟨x,rfl,b,l⟩;exact⟨_,rfl,l,x,rfl,b⟩
 ·intro A w1 hA hb he;have f18:((.ratE (Rat.divInt (p.num*(q.den:Int)) ((p.den:Int)*q.num)) 0:bX)).p (A.eval (.tmp 18)) w1:=he.1 rfl;obtain⟨v18,h18⟩:∃v,A.eval (.tmp 18)=v:=⟨_,rfl⟩;rw[h18]at f18;obtain⟨x,rfl,r⟩:=f18;refine aL (c:=x) r ?_;exact gZ
 ·intro A w1 hA hb he;have f18:((.ratE (Rat.divInt (p.num*(q.den:Int)) ((p.den:Int)*q.num)) 0:bX)).p (A.eval (.tmp 18)) w1:=he.1 rfl;obtain⟨v18,h18⟩:∃v,A.eval (.tmp 18)=v:=⟨_,rfl⟩;rw[h18]at f18;obtain⟨x,rfl,r⟩:=f18;refine aL (c:=.int .i64 0) rfl ?_;exact gZ
 ·intro w1 hb;simp only[pV,bX.eq,bX.u32,bX.int,bX.ints2,bX.rat,bX.ratE,bX.of,lZ];rintro _ - _ - _ - _ - _ - _ ⟨t1,b1,g1,d1,t2,b2,g2,d2,rfl,j1,j2⟩;go_frame;refine az rfl _ (.tmp 4) (.tmp 19) rfl _ _ _ _ rfl rfl (B3.on hb) rfl dA dJ ?_;intro w2 R o;have hC:=B3.on hb;have n:=hb0.trans (hb.mono hb0.size);go_wp2;refine bodyPost_ret (nG rfl _ _ _ Tryz.underlying41 rfl rfl R dA) rfl ⟨_,rfl,bM.stored ⟨t1,b1,g1,d1,t2,b2,g2,d2,rfl,j1,j2⟩ o hC dM,n.trans ((aH o (Nat.le_of_lt hC.lt) (nL _)).mono oM)⟩
end Go.Proofs.YtopclbeomcggiaaGreat
end
section
namespace Q
open Go Go.RowKit Go.Proofs.YtopclbeomcggiaaGreat
def EW:El Int where
 T:=uT
 sz:=1
 pos:=by decide
 E _ cs x:=cs=[.int .u32 x]/\0<=x/\x<bv
 len:=by rintro w c t ⟨rfl,-⟩;rfl
 one:=by rintro w c t ⟨rfl,-⟩ v hv;simp only[List.mem_cons,List.not_mem_nil,or_false]at hv;subst hv;rfl
 on:=λh _=>h
 ok _:=True
 lr:=λh _ _=>h
 self:=trivial
theorem xy{w:World}:∀{l:List Int}{b:List Value},eO EW.E w b l↔b=uc l/\aG l
 | [],b=>by
  constructor
  ·intro h;exact⟨h,aG.nil⟩
  ·rintro⟨h,-⟩;exact h
 | x::l,b=>by
  constructor
  ·rintro⟨c,r,rfl,⟨rfl,d,e⟩,h⟩;obtain⟨rfl,i⟩:=xy.1 h;exact⟨rfl,i.cons ⟨d,e⟩⟩
  ·rintro⟨rfl,h⟩;exact⟨_,_,rfl,⟨rfl,h x sM⟩,xy.2 ⟨rfl,λy j=>h y (by simp[j])⟩⟩
theorem si{w:World}{v:Value}{l:List Int}:bU EW w v l↔cO w v l:=by
 constructor
 ·rintro⟨b,cap,j,rfl,d,e,h⟩;obtain⟨rfl,i⟩:=xy.1 h;exact⟨b,cap,rfl,d,i,e⟩
 ·rintro⟨b,cap,rfl,d,e,h⟩;exact⟨b,cap,uc l,rfl,d,h,xy.2 ⟨rfl,e⟩⟩
theorem dU{α:Type}{e:El α}{P:Program}{w:World}{ops:Array Oper}{rest:List Oper}{o:Oper}{a:Act}{Q:Exit->Act->World->Prop}(p:o.guard=none)(s x:Operand)(t:TypeId)
  (E:o.op=.call { callee:=.builtin .append,args:=#[s,x],argTypes:=#[t,t] }) (G:P.underlying t=some (.slice e.T)) (q:∃z bytes,(P.info? e.T).map (λi=>(i.zero,i.size,i.bytes))=some (some z,e.sz,bytes)/\z.cells.size=e.sz/\bytes<=100000)
  {base:Nat} {l r:List α} {v u:Value} (F:a.eval s=v) (H:a.eval x=u) (k:di e base w v l) (hu:bU e w u r) (j:l.length+r.length<=1000000000) (b:base<=w.heap.size)
  (h:∀d w',di e base w' d (l++r)->Lr v.ownBlock e.T w w'->(d.ownBlock=v.ownBlock\/d.ownBlock=some w.heap.size)->wpList P ops Q rest (a.put o.dst d) w'):wpList P ops Q (o::rest) a w:=by
 refine wpList_plain p λK D=>?_;obtain⟨z,bytes,q,hz,n⟩:=q;obtain⟨d,w',m,y,B,C⟩:=qK (ty:=o.type) G q hz k hu j n b;unfold Oper.wp;rw[qL E (by rw[F,H];exact m)];exact D _ _ (h d w' y B C)
theorem gX{α:Type}(e:El α)(w:World):di e w.heap.size (w.alloc (.cells #[] e.T)) (.slice (some ⟨w.heap.size,0,none⟩) 0 0) [] :=
 ⟨[],World.ownsRow_lit w #[] 0 (nL _) (by unfold maxLen;omega) sM,rfl⟩
theorem EX{α:Type}(e:El α){w:World}{base:Nat}(h:base<=w.heap.size):di e base (w.alloc (.cells #[] e.T)) (.slice (some ⟨w.heap.size,0,none⟩) 0 0) [] :=
 ⟨[],World.ownsRow_lit w #[] 0 h (by unfold maxLen;omega) sM,rfl⟩
theorem cO.newOne(w:World){x:Int}(h:0<=x/\x<bv):cO (w.alloc (.cells #[.int .u32 x] uT)) (.slice (some ⟨w.heap.size,0,none⟩) 1 1) [x] :=
 (Blk.new w uT (uc [x])).u32s (aG.nil.cons h)
def CS:Nat:=15900000000
def CT:Nat:=15899990000
def CX:Nat:=15800000000
theorem nQ:CS=15900000000:=rfl
theorem mM:CT=15899990000:=rfl
theorem MS:CX=15800000000:=rfl
theorem aZ.openS{w:World}{neg:Bool}{m:Value}{z:Int}(h:aZ w neg m z)(hz:aF z.natAbs<=CS) :
  ∃l b cap,m=.slice b l.length cap/\l.length<=cap/\l.length<=496875000/\cO w m l/\aG l/\At uT w b (uc l)/\gL l/\(neg=true->0<l.length)/\z=fZ neg (ah l):=by
 obtain⟨l,⟨b,cap,e,i,d,j⟩,k,o,n⟩:=h;refine⟨l,b,cap,e,i,?_,⟨b,cap,e,i,d,j⟩,d,j,k,o,n⟩;exact aZ.len k d (by rw[n,fe]at hz;rw[nQ]at hz;omega)
end Q
namespace Go.Proofs.YtopclbeomcggiaaGreat
open Q
theorem kF:∃z bytes,(Tryz.prog.info? EW.T).map (λi=>(i.zero,i.size,i.bytes))=some (some z,EW.sz,bytes)/\z.cells.size=EW.sz/\bytes<=100000:=⟨.int .u32 0,4,bD,rfl,dM⟩
end Go.Proofs.YtopclbeomcggiaaGreat
end
section
namespace Go.Proofs.YtopclbeomcggiaaGreat
open Go.RowKit Q
theorem EY{l:List Int}{k:Nat}{v:Value}{neg:Bool}{b:Bool}{w w':World}(e:Hid (gL (l.take k)))(hz:Hid (xg l k))(i:k<=l.length)(hp:b=true->0<k)
  (hm:cO w' v (l.take k)) (hb:Below w.heap.size w w') (d:fZ neg (ah l)=fZ b (ah l)) :
  kY w (fZ neg (ah l)) (.returned (.agg #[.bool b,v])) w' :=
 ⟨_,_,rfl,⟨l.take k,hm,e.out,λh=>by rw[List.length_take,Nat.min_eq_left i];exact hp h,by rw[hz.out.val];exact d⟩,hb⟩
theorem iC(neg:Bool)(v:Value)(l:List Int)(w:World)(h:cO w v l)(X:l.length<=1000000000) :
  Calls Tryz.prog 103 #[v,.bool neg] w (kY w (fZ neg (ah l))):=by
 obtain⟨G,cap,rfl,o,L,hm⟩:=h
 go_enter Tryz.func103,Tryz.ntmps103
 go_upto_region 1 with (fail)
 refine jb λW hb0 B N=>?_;go_wp2
 go_loop [5] (λi=>∃k:Nat,k<=l.length/\i=.int .i64 k/\Hid (xg l k)) (λi=>(intOf i).toNat)
 case atStart=>exact⟨l.length,nL _,rfl,zH (λj h1 h2=>absurd h1 oM)⟩
 case round =>
  obtain⟨k,n,rfl,hz⟩:=hrel
  have d:∀m:Bool,(m=true->0<k)->Hid (gL (l.take k))->fZ neg (ah l)=fZ m (ah l)->∀v w2,di EW W.heap.size w2 v (([]:List Int)++l.take k)->Lr (some W.heap.size) uT (W.alloc (.cells #[] uT)) w2->Blk w2 w.heap.size 39 [.bool false,.slice none 0 0]/\cO w2 v (l.take k)/\Below w.heap.size w w2:=by intro m hp u Y v w2 D M;have z:Below W.heap.size W (W.alloc (.cells #[] uT)):=(Below.refl _ _).alloc (nL _) _;have hb2:=z.trans (M.belowAt z.size (λk n=>by cases n;exact nL _));exact⟨B.on hb2,si.1 (by simpa using D.isSl),hb0.trans (hb2.mono hb0.size)⟩
  by_cases h0:0<k
  ·obtain⟨b,off,rfl,hc⟩:=(hm.on hb0) (by rw[dG];omega);have C:=EH (P:=Tryz.prog) Tryz.underlying37 (by kernel_rfl:(Tryz.prog.info? 104).map (·.size)=some 1) W b off l.length cap (k - 1) .i64 ((k:Int) - 1) oM oM;rw[nU]at C;have p:W.cell? ⟨b,off+(k-1),none⟩=some (.int .u32 (l.getD (k-1) 0)):=hc.ucell _ oM;by_cases y:l.getD (k - 1) 0=0
   ·have J:Hid (xg l (k-1)):=λj h1 h2=>by
     rcases Nat.eq_or_lt_of_le h1 with h|h
     ·rw[<-h];exact y
     ·exact hz.out j oM h2
    rw[y]at p;clear y hz d;go_wp2;go_round
    case rel=>exact⟨k-1,oM,nM,J⟩
    case measure=>simp[intOf];omega
   ·have u:=zH (uS n (λ_=>y));generalize l.getD (k-1) 0=x at *;have S:(x==0)=false:=by simpa using y
    have I:decide (0<(k:Int))=true:=by simp;omega
    have s:=bU.take (si.2 (show cO (W.alloc (.cells #[] uT)) (.slice (some ⟨b,off,none⟩) l.length cap) l from⟨_,cap,rfl,o,L,hm.on (hb0.trans (((Below.refl _ _).alloc (nL _) _).mono hb0.size))⟩)) k n;have q:([]:List Int).length+(l.take k).length<=1000000000:=by simp;omega
    have F:=λW':World=>jX (P:=Tryz.prog) Tryz.underlying37 (by kernel_rfl:(Tryz.prog.info? 104).map (·.size)=some 1) W' (some ⟨b,off,none⟩) l.length cap k .i64 (k:Int) rfl oM;clear y;cases neg
    all_goals
     go_wp2_with (first
      | (at_builtin;refine dU rfl _ _ 37 rfl Tryz.underlying37 kF rfl rfl (gX EW W) s q sM ?_;intro v5 w5 hown5 hl5 hv5;obtain⟨hB5,hU5,hb5⟩:=d _ (λ_=>h0) u rfl v5 w5 hown5 hl5;obtain⟨ao5,cp5,rfl,-⟩:=id hU5)
      | (refine az rfl _ (.tmp 4) (.tmp 30) rfl _ _ _ _ rfl rfl hB5 rfl aK (by have:=hU5.one;simp[Value.oneCell',this]) ?_;intro w6 R6 gr6))
     have hU6:=hU5.stored gr6 hB5 dM;rw[List.length_take,Nat.min_eq_left n]at hU6;exact dH rfl rfl rfl R6 Tryz.underlying39 rfl aK (EY u hz n (λ_=>h0) hU6 (hb5.trans (aH gr6 (Nat.le_of_lt hB5.lt) (nL _))) rfl)
  ·have hk0:k=0:=oM;have I:decide (0<(k:Int))=false:=by simp;omega
   have u:Hid (gL (l.take k)):=zH (uS n (λh=>absurd h oM));have s:=bU.take (si.2 (show cO (W.alloc (.cells #[] uT)) (.slice G l.length cap) l from⟨G,cap,rfl,o,L,hm.on (hb0.trans (((Below.refl _ _).alloc (nL _) _).mono hb0.size))⟩)) k n;have q:([]:List Int).length+(l.take k).length<=1000000000:=by simp;omega
   have F:=λW':World=>jX (P:=Tryz.prog) Tryz.underlying37 (by kernel_rfl:(Tryz.prog.info? 104).map (·.size)=some 1) W' G l.length cap k .i64 (k:Int) rfl oM;have r:fZ neg (ah l)=fZ false (ah l):=yP (by rw[<-hk0];exact hz) _ _;replace hk0:=zH hk0;replace r:=zH r;cases neg
   all_goals
    go_wp2_with (first
     | (at_builtin;refine dU rfl _ _ 37 rfl Tryz.underlying37 kF rfl rfl (gX EW W) s q sM ?_;intro v5 w5 hown5 hl5 hv5;obtain⟨hB5,hU5,hb5⟩:=d false (λh=>by cases h) u r.out v5 w5 hown5 hl5;obtain⟨ao5,cp5,rfl,-⟩:=id hU5)
     | (refine az rfl _ (.tmp 4) (.tmp 30) rfl _ _ _ _ rfl rfl hB5 rfl aK (by have:=hU5.one;simp[Value.oneCell',this]) ?_;intro w6 R6 gr6))
    have hU6:=hU5.stored gr6 hB5 dM;rw[List.length_take,Nat.min_eq_left n]at hU6;exact dH rfl rfl rfl R6 Tryz.underlying39 rfl aK (EY u hz n (λh=>by cases h) hU6 (hb5.trans (aH gr6 (Nat.le_of_lt hB5.lt) (nL _))) (yP (by rw[<-hk0.out];exact hz) _ _))
theorem AR(n:Int)(w:World)(h1:-4611686018427387904<=n)(h2:n<=4611686018427387904):Calls Tryz.prog 70 #[.int .i64 n] w (kY w n):=by
 by_cases k:n<0
 ·have i:Hid (IntKind.u64.wrap (-IntKind.u64.wrap n)=-n):=by show _=_;rw[IntKind.wrap_u64,IntKind.wrap_u64];omega
  go_enter Tryz.func70,Tryz.ntmps70
  go_wp2_with fail
  refine(iC true _ [_,_] _ (uU w _ _ _ (by rw[i.out,aP];omega) (by rw[i.out,aP];omega)) sM).mono ?_;rintro e W ⟨neg,m,rfl,d,hb⟩;rw[i.out,MI,aP]at d;have B:Blk W w.heap.size 39 [.bool false,.slice none 0 0]:=((Blk.new _ _ _).alloc _).on hb
  have b:aZ W neg m n:=by
   have:fZ true (-n%4294967296+4294967296*(-n/4294967296%4294967296))=n:=by simp only[fZ,if_true];omega
   rw[this]at d;exact d
  have hb0:Below w.heap.size w W:=(mU _ _ _).trans (hb.mono (by simp;omega));clear d hb
  go_wp2_with (refine az rfl _ (.tmp 2) (.tmp 18) rfl _ _ _ _ rfl rfl B rfl aK b.ones ?_;intro w2 R j)
  exact dH rfl rfl rfl R Tryz.underlying39 rfl aK (jd hb0 (Below.refl _ _) (nL _) B b j)
 ·go_enter Tryz.func70,Tryz.ntmps70
  go_wp2_with fail
  refine(iC false _ [_,_] _ (uU w _ _ _ (by rw[aP];omega) (by rw[aP];omega)) sM).mono ?_;rintro e W ⟨neg,m,rfl,d,hb⟩;rw[MI,aP]at d;have B:Blk W w.heap.size 39 [.bool false,.slice none 0 0]:=((Blk.new _ _ _).alloc _).on hb
  have b:aZ W neg m n:=by
   have:fZ false (n%4294967296+4294967296*(n/4294967296))=n:=by simp only[fZ];rw[if_neg sM];omega
   rw[this]at d;exact d
  have hb0:Below w.heap.size w W:=(mU _ _ _).trans (hb.mono (by simp;omega));clear d hb
  go_wp2_with (refine az rfl _ (.tmp 2) (.tmp 18) rfl _ _ _ _ rfl rfl B rfl aK b.ones ?_;intro w2 R j)
  exact dH rfl rfl rfl R Tryz.underlying39 rfl aK (jd hb0 (Below.refl _ _) (nL _) B b j)
theorem pG(neg:Bool)(m:Value)(z:Int)(w:World)(h:aZ w neg m z):Calls Tryz.prog 100 #[.agg #[.bool neg,m]] w (rE w (.int .i64 (jm z))):=by
 obtain⟨i,n,cap,rfl,d⟩:=BO h;have b:=zH d;clear h d;by_cases h:n=0
 ·subst h
  go_enter Tryz.func100,Tryz.ntmps100
  go_wp2;go_ret;exact⟨by rw[b.out];rfl,(Below.refl _ _).alloc (nL _) _⟩
 ·have j:((n:Int)==0)=false:=by simp;omega
  replace h:=zH h;cases neg
  all_goals
   go_enter Tryz.func100,Tryz.ntmps100
   go_wp2;go_ret;exact⟨by rw[b.out,if_neg h.out];rfl,(Below.refl _ _).alloc (nL _) _⟩
theorem Tq(neg:Bool)(n:Int):fZ (!neg) n=-(fZ neg n):=by cases neg<;>simp[fZ]
theorem xz(neg:Bool)(m:Value)(z:Int)(w:World)(h:aZ w neg m z)(hz:aF z.natAbs<=CS):Calls Tryz.prog 124 #[.agg #[.bool neg,m]] w (kY w (-z)):=by
 obtain⟨l,j,cap,rfl,hc,k,hu,L,hm,n,hp,rfl⟩:=h.openS hz;rw[<-Tq]
 go_enter Tryz.func124,Tryz.ntmps124
 go_upto_region 1 with (fail)
 refine xc λW hb0 B1 B2 i=>?_;have x1:=B1.at1 0 _ rfl;have x2:=B1.at1 1 _ rfl
 go_wp2_with (first
  | (go_at_call 103;refine(iC (!neg) _ l _ (hu.on hb0) oM).mono ?_;rintro e w1 ⟨n1,m1,rfl,b,hb⟩;have hB:=B2.on hb)
  | (refine az rfl _ (.tmp 2) (.tmp 8) rfl _ _ _ _ rfl rfl hB rfl aK b.ones ?_;intro w2 R d))
 exact dH rfl rfl rfl R Tryz.underlying39 rfl aK (jd hb0 hb oM hB b d)
theorem IG{a b c d:Int}(h:eQ a b=eQ c d):decide (a<b)=decide (c<d):=by
 unfold eQ at h;by_cases e:a<b<;>by_cases i:c<d<;>simp[e,i]at h ⊢
 ·split at h<;>omega
 ·split at h<;>omega
theorem OI(p1 o1 p2 o2 c1 c2:Nat)(l1 l2:List Int)(w:World)(b1:l1.length<=137438953472)(d:l2.length=l1.length)(L1:aG l1)(L2:aG l2)(hc1:bS uT w p1 o1 (uc l1))(hc2:bS uT w p2 o2 (uc l2)) :
  Calls Tryz.prog 102 #[.slice (some ⟨p1,o1,none⟩) l1.length c1,.slice (some ⟨p2,o2,none⟩) l2.length c2] w (rE w (.bool (decide (ah l1<ah l2)))):=by
 have m:=zH d;have hz:((l1.length:Int) != l2.length)=false:=by simp;omega
 clear d
 go_enter Tryz.func102,Tryz.ntmps102
 go_wp2
 go_loopw [5] (λi wr=>∃k:Nat,k<=l1.length/\i=.int .i64 ((k:Int)-1)/\Hid (l1.drop k=l2.drop k)/\Below w.heap.size w wr) (λi _=>(intOf i+1).toNat)
 case atStart=>exact⟨l1.length,nL _,nM,zH (by rw[List.drop_of_length_le (nL _),List.drop_of_length_le (by have:=m.out;omega)]),Below.refl _ _⟩
 case round =>
  obtain⟨k,p,rfl,hd,b⟩:=hrel;by_cases h0:1<=k
  ·obtain⟨i,rfl⟩:∃i,k=i+1:=⟨k - 1,oM⟩;have hl2:i<l2.length:=by have:=m.out;omega
   have hl1:i<l1.length:=oM;have f1:∀W,Below w.heap.size w W->W.cell? ⟨p1,o1+i,none⟩=some (.int .u32 (l1.getD i 0)):=λW h=>(hc1.on h).ucell i hl1;have f2:∀W,Below w.heap.size w W->W.cell? ⟨p2,o2+i,none⟩=some (.int .u32 (l2.getD i 0)):=λW h=>(hc2.on h).ucell i hl2;have o:l1.getD i 0=l2.getD i 0->l1.drop i=l2.drop i:=EL i hd.out m.out.symm oM;have hst':l1.getD i 0≠l2.getD i 0->eQ (ah l1) (ah l2)=eQ (l1.getD i 0) (l2.getD i 0):=EK L1 L2 i hd.out m.out.symm oM;clear hd;generalize l1.getD i 0=x at *;generalize l2.getD i 0=y at *;have hi1:(((i+1:Nat):Int)-1)=(i:Int):=oM;rw[hi1]
   go_upto_region 6 with (fail)
   refine aC mixed (none) (0) (fK.none) [.eq (.slice (some ⟨p1,o1,none⟩) l1.length c1),.eq (.int .i64 i),.eq (.pointer (some ⟨p1,o1+i*1,none⟩)),.eq (.int .u32 x),.eq (.slice (some ⟨p2,o2,none⟩) l2.length c2),.eq (.int .i64 i),.eq (.pointer (some ⟨p2,o2+i*1,none⟩)),.eq (.int .u32 y),.eq (.bool (x != y))] [23,24,25,26,27,28,29,30,31] rfl rfl rfl rfl ⟨λ_ _ a _ _ _=>xM rfl (a 0 rfl),λ_ _ a _ _ _=>xM rfl (a 5 rfl),λ_ _ _ _ _ e=>pI rfl Tryz.underlying37 p1 o1 i (hl1) (e.1 rfl) (e.2.1 rfl),?_,λ_ _ a _ _ _=>xM rfl (a 1 rfl),λ_ _ a _ _ _=>xM rfl (a 5 rfl),λ_ _ _ _ _ e=>pI rfl Tryz.underlying37 p2 o2 i (hl2) (e.1 rfl) (e.2.1 rfl),?_,λA _ _ _ _ he=>have h26:=eT 26 (he.1 rfl);have h30:=eT 30 (he.2.1 rfl);pZ rfl,trivial⟩ ?_
   ·intro A w1 hA hL hS he;have h25:=eT 25 (he.1 rfl);refine ae rfl ?_;have c0:=f1 w1 (b.trans (hL.below.mono b.size));exact aB rfl rfl gZ
   ·intro A w1 hA hL hS he;have h29:=eT 29 (he.1 rfl);refine ae rfl ?_;have c0:=f2 w1 (b.trans (hL.below.mono b.size));exact aB rfl rfl gZ
   ·intro W2 hL2;simp only[aT,af.eq,lZ];go_frame;have hb2:=b.trans (hL2.below.mono b.size);by_cases n:x=y
    ·have l:=zH (o n);have j:(x != y)=false:=by simp[n]
     rw[j];go_wp2;go_roundw
     case rel=>exact⟨i,oM,nM,l,hb2⟩
     case measure=>simp[intOf]
    ·have l:=zH (IG (hst' n));have j:(x != y)=true:=by simp[n]
     rw[j]
     go_upto_region 7 with (fail)
     refine aC mixed (none) (0) (fK.none) [.eq (.slice (some ⟨p1,o1,none⟩) l1.length c1),.eq (.int .i64 i),.eq (.pointer (some ⟨p1,o1+i*1,none⟩)),.eq (.int .u32 x),.eq (.slice (some ⟨p2,o2,none⟩) l2.length c2),.eq (.int .i64 i),.eq (.pointer (some ⟨p2,o2+i*1,none⟩)),.eq (.int .u32 y),.eq (.bool (decide (x<y)))] [32,33,34,35,36,37,38,39,40] rfl rfl rfl rfl ⟨λ_ _ a _ _ _=>xM rfl (a 0 rfl),λ_ _ a _ _ _=>xM rfl (a 5 rfl),λ_ _ _ _ _ e=>pI rfl Tryz.underlying37 p1 o1 i (hl1) (e.1 rfl) (e.2.1 rfl),?_,λ_ _ a _ _ _=>xM rfl (a 1 rfl),λ_ _ a _ _ _=>xM rfl (a 5 rfl),λ_ _ _ _ _ e=>pI rfl Tryz.underlying37 p2 o2 i (hl2) (e.1 rfl) (e.2.1 rfl),?_,λA _ _ _ _ he=>have h35:=eT 35 (he.1 rfl);have h39:=eT 39 (he.2.1 rfl);pZ rfl,trivial⟩ ?_
     ·intro A w1 hA hL hS he;have h34:=eT 34 (he.1 rfl);refine ae rfl ?_;have c0:=f1 w1 (hb2.trans (hL.below.mono hb2.size));exact aB rfl rfl gZ
     ·intro A w1 hA hL hS he;have h38:=eT 38 (he.1 rfl);refine ae rfl ?_;have c0:=f2 w1 (hb2.trans (hL.below.mono hb2.size));exact aB rfl rfl gZ
     ·intro W3 hL3;simp only[aT,af.eq,lZ];go_frame;go_wp2;go_ret;exact⟨by rw[l.out]<;>rfl,hb2.trans (hL3.below.mono hb2.size)⟩
  ·obtain rfl:k=0:=oM;have l:Hid (decide (ah l1<ah l2)=false):=zH (by have:=hd.out;simp at this;rw[this];simp);go_wp2;go_ret;exact⟨by rw[l.out]<;>rfl,b⟩
theorem OJ(ao1 ao2:Option Addr)(c1 c2:Nat)(l1 l2:List Int)(w:World)(b1:l1.length<=137438953472)(b2:l2.length<=137438953472)(L1:aG l1)(L2:aG l2)(m1:At uT w ao1 (uc l1))(m2:At uT w ao2 (uc l2))(n1:gL l1)(n2:gL l2) :
  Calls Tryz.prog 102 #[.slice ao1 l1.length c1,.slice ao2 l2.length c2] w (rE w (.bool (decide (ah l1<ah l2)))):=by
 by_cases b:l1.length=l2.length
 ·by_cases hp:0<l1.length
  ·obtain⟨p1,o1,rfl,hc1⟩:=m1 (by rw[dG];omega);obtain⟨p2,o2,rfl,hc2⟩:=m2 (by rw[dG];omega);exact OI p1 o1 p2 o2 c1 c2 l1 l2 w b1 b.symm L1 L2 hc1 hc2
  ·obtain rfl:l1=[]:=List.eq_nil_of_length_eq_zero oM;obtain rfl:l2=[]:=List.eq_nil_of_length_eq_zero (by simp at b;omega);simp only[List.length_nil]
   go_enter Tryz.func102,Tryz.ntmps102
   go_wp2;refine wp_loop_rounds 1 ?_;rw[rounds_succ];go_wp2;go_ret;exact⟨rfl,Below.refl _ _⟩
 ·have H:Hid (decide (ah l1<ah l2)=decide (l1.length<l2.length)):=zH ((IG (Ig L1 L2 n1 n2 oM)).trans sM);have d:((l1.length:Int) != l2.length)=true:=by simp;omega
  clear b
  go_enter Tryz.func102,Tryz.ntmps102
  go_wp2;go_ret;exact⟨by rw[H.out]<;>rfl,Below.refl _ _⟩
theorem xA(h i:Value)(b l2:List Int)(w:World)(m:cO w h b)(n:cO w i l2)(b1:b.length<=137438953472)(l:l2.length<=137438953472)(n1:gL b)(n2:gL l2) :
  Calls Tryz.prog 102 #[h,i] w (rE w (.bool (decide (ah b<ah l2)))):=by
 obtain⟨d,c1,rfl,_,j,m1⟩:=m;obtain⟨e,c2,rfl,_,k,o⟩:=n;exact OJ d e c1 c2 b l2 w b1 l j k m1 o n1 n2
theorem MU{n:Bool}{x y:Int}:fZ n x=fZ n y↔x=y:=by cases n<;>simp[fZ]
theorem EZ(n1 n2:Bool)(m1 m2:Value)(z1 z2:Int)(w:World)(h1:aZ w n1 m1 z1)(h2:aZ w n2 m2 z2)(c1:aF z1.natAbs<=jl)(c2:aF z2.natAbs<=jl) :
  Calls Tryz.prog 69 #[.agg #[.bool n1,m1],.agg #[.bool n2,m2]] w (rE w (.bool (decide (z1=z2)))):=by
 obtain⟨l1,ao1,cap1,rfl,u1,b1,nn1,e1⟩:=gz h1 c1;obtain⟨l2,ao2,cap2,rfl,u2,b2,nn2,e2⟩:=gz h2 c2;have HL1:=λW (hb:Below w.heap.size w W)=>xA _ _ l1 l2 W (u1.on hb) (u2.on hb) oM oM nn1 nn2;have HL2:=λW (hb:Below w.heap.size w W)=>xA _ _ l2 l1 W (u2.on hb) (u1.on hb) oM oM nn2 nn1
 go_enter Tryz.func69,Tryz.ntmps69
 go_upto_region 1 with (fail)
 refine xc λW hb0 B1 B2 k=>?_;by_cases i:n1=n2
 ·subst i;by_cases d:ah l1<ah l2
  ·have b:decide (z1=z2)=false:=by rw[decide_eq_false_iff_not,e1,e2,MU];omega
   clear e1 e2;simp only[d,decide_true]at HL1;refine aR trivial (none) (0) (fK.none) [.eq (.pointer (some ⟨w.heap.size,0,none⟩)),.eq (.bool n1),.eq (.pointer (some ⟨w.heap.size+1,0,none⟩)),.eq (.bool n1),.eq (.bool true),.eq (.bool true),.eq (.pointer (some ⟨w.heap.size,1,none⟩)),.eq (.slice ao1 l1.length cap1),.eq (.pointer (some ⟨w.heap.size+1,1,none⟩)),.eq (.slice ao2 l2.length cap2),.ret (.bool true),.eq (.bool false),.eq (.bool false),.eq (.bool false),.eq undef,.eq undef,.eq undef,.eq undef,.eq undef,.eq undef,.eq (.bool false)] [5,6,7,8,9,10,11,12,13,14,15,16,17,18,19,20,21,22,23,24,25] rfl rfl rfl rfl ⟨λA _ hA _ _ _=>have h2:A.eval (.tmp 2)=.pointer (some ⟨w.heap.size,0,none⟩):=hA 2 rfl;pZ rfl,λA _ _ hL _ he=>have hb:=hL.below;have h5:=eT 5 (he.1 rfl);have c0:=((B1).on hb).at1 0 _ rfl;pZ rfl,λA _ hA _ _ _=>have h3:A.eval (.tmp 3)=.pointer (some ⟨w.heap.size+1,0,none⟩):=hA 3 rfl;pZ rfl,λA _ _ hL _ he=>have hb:=hL.below;have h7:=eT 7 (he.1 rfl);have c0:=((B2).on hb).at1 0 _ rfl;pZ rfl,λA _ _ _ _ he=>have h6:=eT 6 (he.1 rfl);have h8:=eT 8 (he.2.1 rfl);pZ rfl,λ_ _ _ _ _ e=>xM rfl (e.1 rfl),λA _ hA _ _ he=>have h10:=eT 10 (he.1 rfl);have h2:A.eval (.tmp 2)=.pointer (some ⟨w.heap.size,0,none⟩):=hA 2 rfl;yZ h10 rfl,λA _ _ hL _ he=>have hb:=hL.below;have h10:=eT 10 (he.2.1 rfl);have h11:=eT 11 (he.1 rfl);have c0:=((B1).on hb).at1 1 _ rfl;yZ h10 rfl,λA _ hA _ _ he=>have h10:=eT 10 (he.1 rfl);have h3:A.eval (.tmp 3)=.pointer (some ⟨w.heap.size+1,0,none⟩):=hA 3 rfl;yZ h10 rfl,λA _ _ hL _ he=>have hb:=hL.below;have h10:=eT 10 (he.2.1 rfl);have h13:=eT 13 (he.1 rfl);have c0:=((B2).on hb).at1 1 _ rfl;yZ h10 rfl,λA _ _ hL hS he=>have hb:=hS rfl;have h10:=eT 10 (he.2.2.1 rfl);have h12:=eT 12 (he.1 rfl);have h14:=eT 14 (he.2.1 rfl);have hf0:=eF A 102;cY (f:=102) (args:=#[.slice ao1 l1.length cap1,.slice ao2 l2.length cap2]) h10 (HL1 _ (hb0.trans (hL.below.mono hb0.size))),λA _ _ _ _ he=>have h10:=eT 10 (he.2.1 rfl);have h15:=eT 15 (he.1 rfl);yZ h10 rfl,λ_ _ _ _ _ e=>pK rfl (e.1 rfl) (e.2.1 rfl),λ_ _ _ _ _ e=>xM rfl (e.1 rfl),λ_ _ _ _ _ e=>nO false (e.1 rfl),λ_ _ _ _ _ e=>nO false (e.2.1 rfl),λ_ _ _ _ _ e=>nO false (e.1 rfl),λ_ _ _ _ _ e=>nO false (e.2.1 rfl),λ_ _ _ _ _ e=>nO false (e.2.2.1 rfl),λ_ _ _ _ _ e=>nO false (e.2.1 rfl),λ_ _ _ _ _ e=>ae rfl (ji rfl (e.1 rfl) rfl rfl),trivial⟩ ?_
   ·intro W2 hL2;simp only[aT,af.eq,af.ret,lZ];go_frame;go_wp2;go_ret;exact⟨by first|rfl|(rw[b]<;>rfl)|(simp[b]),hb0.trans (hL2.below.mono hb0.size)⟩
  ·simp only[d,decide_false]at HL1
   have b:decide (z1=z2)=!(decide (ah l2<ah l1)):=by rw[Bool.eq_iff_iff];simp only[decide_eq_true_eq,Bool.not_eq_true',decide_eq_false_iff_not,e1,e2,MU];omega
   clear e1 e2;refine aR trivial (none) (0) (fK.none) [.eq (.pointer (some ⟨w.heap.size,0,none⟩)),.eq (.bool n1),.eq (.pointer (some ⟨w.heap.size+1,0,none⟩)),.eq (.bool n1),.eq (.bool true),.eq (.bool true),.eq (.pointer (some ⟨w.heap.size,1,none⟩)),.eq (.slice ao1 l1.length cap1),.eq (.pointer (some ⟨w.heap.size+1,1,none⟩)),.eq (.slice ao2 l2.length cap2),.ret (.bool false),.eq (.bool true),.eq (.bool true),.eq (.bool true),.eq (.pointer (some ⟨w.heap.size+1,1,none⟩)),.eq (.slice ao2 l2.length cap2),.eq (.pointer (some ⟨w.heap.size,1,none⟩)),.eq (.slice ao1 l1.length cap1),.ret (.bool (decide (ah l2<ah l1))),.eq (.bool (!(decide (ah l2<ah l1)))),.eq (.bool (!(decide (ah l2<ah l1))))] [5,6,7,8,9,10,11,12,13,14,15,16,17,18,19,20,21,22,23,24,25] rfl rfl rfl rfl ⟨λA _ hA _ _ _=>have h2:A.eval (.tmp 2)=.pointer (some ⟨w.heap.size,0,none⟩):=hA 2 rfl;pZ rfl,λA _ _ hL _ he=>have hb:=hL.below;have h5:=eT 5 (he.1 rfl);have c0:=((B1).on hb).at1 0 _ rfl;pZ rfl,λA _ hA _ _ _=>have h3:A.eval (.tmp 3)=.pointer (some ⟨w.heap.size+1,0,none⟩):=hA 3 rfl;pZ rfl,λA _ _ hL _ he=>have hb:=hL.below;have h7:=eT 7 (he.1 rfl);have c0:=((B2).on hb).at1 0 _ rfl;pZ rfl,λA _ _ _ _ he=>have h6:=eT 6 (he.1 rfl);have h8:=eT 8 (he.2.1 rfl);pZ rfl,λ_ _ _ _ _ e=>xM rfl (e.1 rfl),λA _ hA _ _ he=>have h10:=eT 10 (he.1 rfl);have h2:A.eval (.tmp 2)=.pointer (some ⟨w.heap.size,0,none⟩):=hA 2 rfl;yZ h10 rfl,λA _ _ hL _ he=>have hb:=hL.below;have h10:=eT 10 (he.2.1 rfl);have h11:=eT 11 (he.1 rfl);have c0:=((B1).on hb).at1 1 _ rfl;yZ h10 rfl,λA _ hA _ _ he=>have h10:=eT 10 (he.1 rfl);have h3:A.eval (.tmp 3)=.pointer (some ⟨w.heap.size+1,0,none⟩):=hA 3 rfl;yZ h10 rfl,λA _ _ hL _ he=>have hb:=hL.below;have h10:=eT 10 (he.2.1 rfl);have h13:=eT 13 (he.1 rfl);have c0:=((B2).on hb).at1 1 _ rfl;yZ h10 rfl,λA _ _ hL hS he=>have hb:=hS rfl;have h10:=eT 10 (he.2.2.1 rfl);have h12:=eT 12 (he.1 rfl);have h14:=eT 14 (he.2.1 rfl);have hf0:=eF A 102;cY (f:=102) (args:=#[.slice ao1 l1.length cap1,.slice ao2 l2.length cap2]) h10 (HL1 _ (hb0.trans (hL.below.mono hb0.size))),λA _ _ _ _ he=>have h10:=eT 10 (he.2.1 rfl);have h15:=eT 15 (he.1 rfl);yZ h10 rfl,λ_ _ _ _ _ e=>pK rfl (e.1 rfl) (e.2.1 rfl),λ_ _ _ _ _ e=>xM rfl (e.1 rfl),λA _ hA _ _ he=>have h18:=eT 18 (he.1 rfl);have h3:A.eval (.tmp 3)=.pointer (some ⟨w.heap.size+1,0,none⟩):=hA 3 rfl;yZ h18 rfl,λA _ _ hL _ he=>have hb:=hL.below;have h18:=eT 18 (he.2.1 rfl);have h19:=eT 19 (he.1 rfl);have c0:=((B2).on hb).at1 1 _ rfl;yZ h18 rfl,λA _ hA _ _ he=>have h18:=eT 18 (he.1 rfl);have h2:A.eval (.tmp 2)=.pointer (some ⟨w.heap.size,0,none⟩):=hA 2 rfl;yZ h18 rfl,λA _ _ hL _ he=>have hb:=hL.below;have h18:=eT 18 (he.2.1 rfl);have h21:=eT 21 (he.1 rfl);have c0:=((B1).on hb).at1 1 _ rfl;yZ h18 rfl,λA _ _ hL hS he=>have hb:=hS rfl;have h18:=eT 18 (he.2.2.1 rfl);have h20:=eT 20 (he.1 rfl);have h22:=eT 22 (he.2.1 rfl);have hf0:=eF A 102;cY (f:=102) (args:=#[.slice ao2 l2.length cap2,.slice ao1 l1.length cap1]) h18 (HL2 _ (hb0.trans (hL.below.mono hb0.size))),λA _ _ _ _ he=>have h18:=eT 18 (he.2.1 rfl);have h23:=eT 23 (he.1 rfl);yZ h18 rfl,λ_ _ _ _ _ e=>pK rfl (e.1 rfl) (e.2.1 rfl),trivial⟩ ?_
   ·intro W2 hL2;simp only[aT,af.eq,af.ret,lZ];go_frame;go_wp2;go_ret;exact⟨by first|rfl|(rw[b]<;>rfl)|(simp[b]),hb0.trans (hL2.below.mono hb0.size)⟩
 ·have b:decide (z1=z2)=false:=by
   rw[decide_eq_false_iff_not];intro hz;cases n1<;>cases n2<;>first|exact i rfl|skip
   ·have:=oG h1;have:=mD h2;omega
   ·have:=mD h1;have:=oG h2;omega
  clear e1 e2;have j:(n1==n2)=false:=by simpa using i
  ·skip
   refine aR trivial (none) (0) (fK.none) [.eq (.pointer (some ⟨w.heap.size,0,none⟩)),.eq (.bool n1),.eq (.pointer (some ⟨w.heap.size+1,0,none⟩)),.eq (.bool n2),.eq (.bool false),.eq (.bool false),.eq undef,.eq undef,.eq undef,.eq undef,.eq undef,.eq undef,.eq (.bool false),.eq (.bool false),.eq undef,.eq undef,.eq undef,.eq undef,.eq undef,.eq undef,.eq (.bool false)] [5,6,7,8,9,10,11,12,13,14,15,16,17,18,19,20,21,22,23,24,25] rfl rfl rfl rfl ⟨λA _ hA _ _ _=>have h2:A.eval (.tmp 2)=.pointer (some ⟨w.heap.size,0,none⟩):=hA 2 rfl;pZ rfl,λA _ _ hL _ he=>have hb:=hL.below;have h5:=eT 5 (he.1 rfl);have c0:=((B1).on hb).at1 0 _ rfl;pZ rfl,λA _ hA _ _ _=>have h3:A.eval (.tmp 3)=.pointer (some ⟨w.heap.size+1,0,none⟩):=hA 3 rfl;pZ rfl,λA _ _ hL _ he=>have hb:=hL.below;have h7:=eT 7 (he.1 rfl);have c0:=((B2).on hb).at1 0 _ rfl;pZ rfl,λA _ _ _ _ he=>have h6:=eT 6 (he.1 rfl);have h8:=eT 8 (he.2.1 rfl);pZ rfl,λ_ _ _ _ _ e=>xM rfl (e.1 rfl),λ_ _ _ _ _ e=>nO false (e.1 rfl),λ_ _ _ _ _ e=>nO false (e.2.1 rfl),λ_ _ _ _ _ e=>nO false (e.1 rfl),λ_ _ _ _ _ e=>nO false (e.2.1 rfl),λ_ _ _ _ _ e=>nO false (e.2.2.1 rfl),λ_ _ _ _ _ e=>nO false (e.2.1 rfl),λ_ _ _ _ _ e=>ae rfl (ji rfl (e.1 rfl) rfl rfl),λ_ _ _ _ _ e=>xM rfl (e.1 rfl),λ_ _ _ _ _ e=>nO false (e.1 rfl),λ_ _ _ _ _ e=>nO false (e.2.1 rfl),λ_ _ _ _ _ e=>nO false (e.1 rfl),λ_ _ _ _ _ e=>nO false (e.2.1 rfl),λ_ _ _ _ _ e=>nO false (e.2.2.1 rfl),λ_ _ _ _ _ e=>nO false (e.2.1 rfl),λ_ _ _ _ _ e=>ae rfl (ji rfl (e.1 rfl) rfl rfl),trivial⟩ ?_
   ·intro W2 hL2;simp only[aT,af.eq,af.ret,lZ];go_frame;go_wp2;go_ret;exact⟨by first|rfl|(rw[b]<;>rfl)|(simp[b]),hb0.trans (hL2.below.mono hb0.size)⟩
theorem Ef(ao1 ao2:Option Addr)(cap1 cap2:Nat)(r d:List Int)(w:World)(l:aG r)(k:aG d)(m1:At uT w ao1 (uc r))(m2:At uT w ao2 (uc d))(b1:r.length<=137438953472)(n:Nat)(hr:r.length=n+1)(hd:d.length=n+1)(x y:Int)(b:x=r.getD n 0)(i:y=d.getD n 0) :
  Calls Tryz.prog 158 #[.slice ao1 (n+1) cap1,.slice ao2 (n+1) cap2] w (kY w (max 1 (x/(y+1)))):=by
 obtain⟨p1,o1,rfl,hc1⟩:=m1 (by rw[dG];omega);obtain⟨p2,o2,rfl,hc2⟩:=m2 (by rw[dG];omega);have x0:=l.getD n;have y0:=k.getD n;rw[aP,<-b]at x0;rw[aP,<-i]at y0;replace b:=zH b;replace i:=zH i;have u:n<=137438953472:=oM
 go_enter Tryz.func158,Tryz.ntmps158
 go_upto_region 1 with (fail)
 refine jb λW hb0 B s=>?_;have p:=(hc1.on hb0).ucell n oM;have o:=(hc2.on hb0).ucell n oM;rw[<-b.out]at p;rw[<-i.out]at o;replace hr:=zH hr;replace hd:=zH hd;have g1:(n:Int)<n+1:=oM;have g2:(0:Int)<=n:=oM
 go_quiet (fail)
 obtain⟨W1,hW1⟩:∃W1,W1=W.drewN nq:=⟨_,rfl⟩;rw[<-hW1];have hb1:Below W.heap.size W W1:=by rw[hW1];exact oZ (Below.refl _ _) _
 have cr1:=((hc1.on hb0).on hb1).ucell n (by have:=hr.out;omega);rw[<-b.out]at cr1;have B1:=B.on hb1;have hq0:0<=x/(y+1):=Int.ediv_nonneg x0.1 oM;have hq1:x/(y+1)<=x:=Int.ediv_le_self _ x0.1;have z:(0:Int)<y+1:=oM;clear hW1
 go_wp2_with (first
  | (go_at_call 70;refine(AR (max 1 (x/(y+1))) _ oM oM).mono ?_;rintro e W2 ⟨neg,m,rfl,j,hb2⟩)
  | (refine az rfl _ (.tmp 4) (.tmp 37) rfl _ _ _ _ rfl rfl (B1.on hb2) rfl aK j.ones ?_;intro W3 R q))
 exact dH rfl rfl rfl R Tryz.underlying39 rfl aK (jd hb0 (hb1.trans (hb2.mono hb1.size)) oM (B1.on hb2) j q)
theorem II(w:World){a b:Int}(ha:0<=a/\a<bv)(hb:0<=b/\b<bv):cO (w.alloc (.cells #[.int .u32 a,.int .u32 b] uT)) (.slice (some ⟨w.heap.size,0,none⟩) 2 2) [a,b] :=
 (Blk.new w uT (uc [a,b])).u32s ((aG.nil.cons hb).cons ha)
theorem KO{w:World}{g base:Nat}{l:List Int}(h:Blk w g uT (uc l))(hb:base<=g)(b:l.length<=1000000000)(L:aG l):di EW base w (.slice (some ⟨g,0,none⟩) l.length l.length) l :=
 ⟨uc l,⟨by rw[dG];exact(nU _).symm,.inr ⟨g,l.length,(uc l).toArray,rfl,hb,h,nL _,by unfold maxLen;omega,by rw[List.size_toArray,dG];exact(nU _).symm,by
  show(uc l).toArray.toList.take (l.length*1)=uc l
  rw[nU,tL (by rw[dG];exact nL _)]⟩⟩,xy.2 ⟨rfl,L⟩⟩
theorem Eg(ao1 ao2:Option Addr)(cap1 cap2:Nat)(r d:List Int)(w:World)(F:aG r)(I:aG d)(m1:At uT w ao1 (uc r))(m2:At uT w ao2 (uc d))(b1:r.length<=900000000)(m j:Nat)(hr:r.length=m+j+2)(hd:d.length=m+1)(x x2 y:Int)(p:x=r.getD (m+j+1) 0)(hx2:x2=r.getD (m+j) 0)(s:y=d.getD m 0)(hy1:1<=y) :
  Calls Tryz.prog 158 #[.slice ao1 (m+j+2) cap1,.slice ao2 (m+1) cap2] w (kY w ((x*4294967296+x2)/(y+1)*bv^j)):=by
 obtain⟨p1,o1,rfl,hc1⟩:=m1 (by rw[dG];omega);obtain⟨p2,o2,rfl,hc2⟩:=m2 (by rw[dG];omega);have x0:=F.getD (m+j+1);have z0:=F.getD (m+j);have y0:=I.getD m;rw[aP,<-p]at x0;rw[aP,<-hx2]at z0;rw[aP,<-s]at y0;replace p:=zH p;replace hx2:=zH hx2;replace s:=zH s;have S:m+j<=900000000:=oM
 go_enter Tryz.func158,Tryz.ntmps158
 go_upto_region 1 with (fail)
 refine jb λW hb0 B N=>?_;have J:=(hc2.on hb0).ucell m oM;have G:=(hc1.on hb0).ucell (m+j+1) oM;have cr2:=(hc1.on hb0).ucell (m+j) oM;rw[<-p.out]at G;rw[<-hx2.out]at cr2;rw[<-s.out]at J;replace hr:=zH hr;replace hd:=zH hd;have g1:(m:Int)<m+1:=oM;have g2:(0:Int)<=m:=oM
 go_quiet (fail)
 go_upto_region 4 with fail
 have cr3:W.cell? ⟨p1,o1+(m+j+2-1),none⟩=some (.int .u32 x):=by rw[(oM:m+j+2-1=m+j+1)];exact G
 have cr4:W.cell? ⟨p1,o1+(m+j+2-2),none⟩=some (.int .u32 x2):=by rw[(oM:m+j+2-2=m+j)];exact cr2
 have X:(0:Int)<y+1:=oM;have gy0:y+1≠0:=oM;have hT0:0<=x*4294967296+x2:=oM
 go_quiet (fail)
 have hq0:0<=(x*4294967296+x2)/(y+1):=Int.ediv_nonneg hT0 oM;have hq1:(x*4294967296+x2)/(y+1)<=x*4294967296+x2:=Int.ediv_le_self _ hT0;have u:(x*4294967296+x2)/(y+1)<18446744073709551616:=oM;have hL:=OB hT0 (oM:2<=y+1) oM j;obtain⟨q,hq⟩:∃q,q=(x*4294967296+x2)/(y+1):=⟨_,rfl⟩;rw[<-hq]at hq0 hq1 u hL ⊢;replace hL:=zH hL;replace hq:=zH hq;have e1:(0:Int)<=q%4294967296/\q%4294967296<bv:=by rw[aP];omega
 have e2:(0:Int)<=q/4294967296/\q/4294967296<bv:=by rw[aP];omega
 go_upto_region 6 with (at_make;refine bL rfl _ _ _ rfl _ (.int .u32 0) 1 4 Tryz.underlying37 bD rfl rfl .i64 .i64 _ _ j rfl rfl oM oM oM oM ?_;intro w4 own4 gr4)
 rw[iO]at own4;have s5:W.heap.size<=w4.heap.size:=gr4.size;have g4:Below W.heap.size W w4:=(oZ (Below.refl _ _) _).trans gr4;have l:Below w4.heap.size w4 (w4.alloc (.cells #[.int .u32 (q%4294967296),.int .u32 (q/4294967296)] 104)):=(Below.refl _ _).alloc (nL _) _;have b:=KO (base:=W.heap.size) (own4.on l) (nL _) (by rw[List.length_replicate];omega) (jo j);simp only[List.length_replicate]at b;have D:bU EW (w4.alloc (.cells #[.int .u32 (q%4294967296),.int .u32 (q/4294967296)] 104)) (.slice (some ⟨w4.heap.size,0,none⟩) 2 2) [q%4294967296,q/4294967296]:=si.2 (II w4 e1 e2);have n:(List.replicate j (0:Int)).length+([q%4294967296,q/4294967296]:List Int).length<=1000000000:=by simp;omega
 have z:W.heap.size<=(w4.alloc (.cells #[.int .u32 (q%4294967296),.int .u32 (q/4294967296)] 104)).heap.size:=by rw[World.size_alloc];omega
 have C:∀k,(Value.slice (some ⟨W.heap.size,0,none⟩) j j).ownBlock=some k->W.heap.size<=k:=λk M=>(b.base_le k M).1
 have hL2:fZ false (ah (List.replicate j 0++[q%4294967296,q/4294967296]))=q*bv^j:=by have h1:=hL.out;rw[Int.emod_eq_of_lt (a:=q/4294967296) oM oM]at h1;exact h1
 have i:=g4.trans (l.mono g4.size);replace b:=zH b;replace hL2:=zH hL2;clear own4 hL
 go_wp2_with (first
  | (refine az rfl _ (.tmp 4) (.tmp 65) rfl _ _ _ _ rfl rfl (B.on hb7) rfl aK o.ones ?_;intro W7 R L)
  | (go_at_call 103;refine(iC false _ _ _ (si.1 hown5.isSl) (by simp;omega)).mono ?_;rintro e W6 ⟨neg,m6,rfl,o,hb6⟩;rw[hL2.out]at o;have hb7:=hb5.trans (hb6.mono hb5.size))
  | (at_builtin;refine dU rfl _ _ 37 rfl Tryz.underlying37 kF rfl rfl b.out D n z ?_;intro v5 w5 hown5 hl5 hv5;have hb5:=i.trans (hl5.belowAt i.size C)))
 rw[hq.out]at o;exact dH rfl rfl rfl R Tryz.underlying39 rfl aK (jd hb0 hb7 oM (B.on hb7) o L)
theorem Gq(q s:Value)(r d:List Int)(w:World)(u:cO w q r)(x:cO w s d)(z:gL r)(nd:gL d)(hd:1<=d.length)(h:ah d<=ah r)(b1:r.length<=900000000) :
  Calls Tryz.prog 158 #[q,s] w (kY w (KE r d)):=by
 obtain⟨i,b,rfl,-,n,m1⟩:=u;obtain⟨k,e,rfl,-,l,p⟩:=x;have y:=EM n l nd hd h;obtain⟨m,hm⟩:∃m,d.length=m+1:=⟨d.length - 1,oM⟩;by_cases he:r.length=m+1
 ·rw[he,hm,KE,if_pos (by rw[he,hm]),he,hm];exact Ef i k b e r d w n l m1 p oM m he hm _ _ rfl rfl
 ·obtain⟨j,o⟩:∃j,r.length=m+j+2:=⟨r.length - m - 2,oM⟩;have:=Eg i k b e r d w n l m1 p b1 m j o hm _ _ _ rfl rfl rfl (xm l nd hm);rw[o,hm,KE,if_neg oM,o,hm];rw[(oM:m+j+2 - 1=m+j+1),(oM:m+j+2 - 2=m+j),(oM:m+1 - 1=m),(oM:m+j+2 - (m+1) - 1=j)];exact this
def xB (l1 l2:List Int) (i:Nat) (xs:List Int) (c:Int):Prop :=
 xs.length=i/\aG xs/\0<=c/\c<=1/\i<=max l1.length l2.length+1/\(i=max l1.length l2.length+1->c=0)/\ah xs+bv^i*c=ah (l1.take i)+ah (l2.take i)
theorem xB.start(b l2:List Int):xB b l2 0 [] 0:=⟨rfl,aG.nil,oM,oM,oM,oM,by simp[ah]⟩
theorem IJ(x:Int):0<=x%4294967296/\x%4294967296<bv:=by rw[aP];omega
theorem xB.step{b l2:List Int}{i:Nat}{j:List Int}{c:Int}(h:xB b l2 i j c)(k:aG b)(l:aG l2)(B:i<b.length\/i<l2.length\/0<c) :
  xB b l2 (i+1) (j++[(c+b.getD i 0+l2.getD i 0)%4294967296]) ((c+b.getD i 0+l2.getD i 0)/4294967296):=by
 obtain⟨d,o,u,x,y,p,z⟩:=h;have m:=k.getD i;have n:=l.getD i;rw[aP]at m n;have p1:=kS b i;have s:=kS l2 i
 have kQ:i<=max b.length l2.length:=by
  rcases Nat.lt_or_ge (max b.length l2.length) i with h|h
  ·have:=p oM;omega
  ·exact h
 refine⟨by simp[d],o.append (aG.nil.cons (IJ _)),oM,oM,oM,λhe=>?_,?_⟩
 ·have:=p1 oM;have:=s oM;omega
 ·rw[gP,aI,aI,d];simp only[ah,Int.mul_zero,Int.add_zero];have e:=Int.mul_ediv_add_emod (c+b.getD i 0+l2.getD i 0) 4294967296;generalize(c+b.getD i 0+l2.getD i 0)%4294967296=r at *;generalize(c+b.getD i 0+l2.getD i 0)/4294967296=q at *;rw[Int.pow_succ];have:bv^i*(c+b.getD i 0+l2.getD i 0)=bv^i*(bv*q+r):=by rw[aP,e]
  generalize bv^i=P at *;grind
theorem xB.done{b l2:List Int}{i:Nat}{d:List Int}(h:xB b l2 i d 0)(k:¬i<b.length)(l:¬i<l2.length):ah d=ah b+ah l2/\d.length<=max b.length l2.length+1:=by obtain⟨e1,_,_,_,j,_,e⟩:=h;rw[tL oM,tL oM]at e;exact⟨by simpa using e,oM⟩
theorem OL(v1 v2:Value)(l1 l2:List Int)(w:World)(h1:cO w v1 l1)(h2:cO w v2 l2)(b1:l1.length<=499000000)(b2:l2.length<=499000000) :
  Calls Tryz.prog 125 #[v1,v2] w (Kz w λl=>ah l=ah l1+ah l2/\l.length<=max l1.length l2.length+1):=by
 obtain⟨ao1,cap1,rfl,hc1,L1,m1⟩:=h1;obtain⟨ao2,cap2,rfl,hc2,L2,m2⟩:=h2
 go_enter Tryz.func125,Tryz.ntmps125
 go_wp2;have hown0:=gX EW w;have hb0:Below w.heap.size w (w.alloc (.cells #[] uT)):=(Below.refl _ _).alloc (nL _) _;change di EW w.heap.size (w.alloc (.cells #[] uT)) _ _ at hown0
 go_loopw [5,6,7] (λo c i wr=>∃(k:Nat)(u:List Int)(q:Int),i=.int .i64 k/\c=.int .u64 q/\Hid (xB l1 l2 k u q)/\Hid (di EW w.heap.size wr o u)/\Below w.heap.size w wr) (λ_ _ i _=>max l1.length l2.length+1-(intOf i).toNat)
 case atStart=>exact⟨0,[],0,rfl,rfl,zH (xB.start l1 l2),zH hown0,hb0⟩
 case round =>
  clear hown0 hb0;obtain⟨k,u,q,rfl,rfl,hinv,n,hb⟩:=hrel;have q0:=hinv.out.2.2.1;have q1:=hinv.out.2.2.2.1;have m:=hinv.out.2.2.2.2.1;have D:=hinv.out.1;have p:u.length+([0]:List Int).length<=1000000000:=by simp;omega
  have bY:=hinv.out.step L1 L2;have j:=hinv.out.2.2.2.2.2.1;have p1:=kS l1 k;have p2:=kS l2 k;have a1:=(L1.getD k).1;have G:l1.getD k 0<4294967296:=(L1.getD k).2;have a2:=(L2.getD k).1;have I:l2.getD k 0<4294967296:=(L2.getD k).2
  have hc1:k<l1.length->∃b o,Hid (ao1=some ⟨b,o,none⟩)/\wr.cell? ⟨b,o+k,none⟩=some (.int .u32 (l1.getD k 0)):=λh=>by obtain⟨b,o,e,hc⟩:=m1 (by rw[dG];omega);exact⟨b,o,zH e,(hc.on hb).ucell k h⟩
  have hc2:k<l2.length->∃b o,Hid (ao2=some ⟨b,o,none⟩)/\wr.cell? ⟨b,o+k,none⟩=some (.int .u32 (l2.getD k 0)):=λh=>by obtain⟨b,o,e,hc⟩:=m2 (by rw[dG];omega);exact⟨b,o,zH e,(hc.on hb).ucell k h⟩
  generalize l1.getD k 0=x at *;generalize l2.getD k 0=y at *;have M:k<=499000001:=oM;replace m:=zH m;replace j:=zH j;replace D:=zH D;have F:=n.out.base_le
  have d:∀z:Int,0<=z->di EW w.heap.size (wr.alloc (.cells #[.int .u32 (z%4294967296)] uT)) u5 u/\bU EW (wr.alloc (.cells #[.int .u32 (z%4294967296)] uT)) (.slice (some ⟨wr.heap.size,0,none⟩) 1 1) [z%4294967296]/\w.heap.size<=(wr.alloc (.cells #[.int .u32 (z%4294967296)] uT)).heap.size /\
    ∀w5,Lr u5.ownBlock uT (wr.alloc (.cells #[.int .u32 (z%4294967296)] uT)) w5->Below w.heap.size w w5:=λz _=>by
   have C:Below wr.heap.size wr (wr.alloc (.cells #[.int .u32 (z%4294967296)] uT)):=(Below.refl _ _).alloc (nL _) _;have s:=hb.trans (C.mono hb.size);exact⟨n.out.on C,si.2 (cO.newOne wr (IJ z)),s.size,λw5 L=>s.trans (L.belowAt s.size (λk J=>(F k J).1))⟩
  by_cases h1:k<l1.length
  ·obtain⟨B,o1,E1,hcell1⟩:=hc1 h1;replace bY:=zH (bY (.inl h1));clear p1;by_cases h2:k<l2.length
   ·obtain⟨r,o2,E2,hcell2⟩:=hc2 h2;clear p2 hc1 hc2;obtain⟨s1,s2,s3,s4⟩:=d (q+x+y) oM;clear d
    go_wp2_with (first
     | (refine aj rfl (.tmp 30) (.tmp 31) _ rfl _ Tryz.underlying37 _ _ _ bD _ _ _ rfl _ _ rfl k rfl h1 B o1 E1.out ?_;rw[nU])
     | (refine aj rfl (.tmp 41) (.tmp 42) _ rfl _ Tryz.underlying37 _ _ _ bD _ _ _ rfl _ _ rfl k rfl h2 r o2 E2.out ?_;rw[nU])
     | (at_builtin;refine dU rfl _ _ 37 rfl Tryz.underlying37 kF rfl rfl s1 s2 p s3 ?_;intro v5 w5 hown5 hl5 hv5;replace s4:=s4 w5 hl5))
    go_roundw
    case rel=>exact⟨k+1,_,_,nM,rfl,bY,zH hown5,s4⟩
    case measure=>have:=m.out;simp[intOf];omega
   ·obtain rfl:=p2 h2;clear p2 hc1 hc2;obtain⟨s1,s2,s3,s4⟩:=d (q+x) oM;rw[Int.add_zero]at bY;clear d
    go_wp2_with (first
     | (refine aj rfl (.tmp 30) (.tmp 31) _ rfl _ Tryz.underlying37 _ _ _ bD _ _ _ rfl _ _ rfl k rfl h1 B o1 E1.out ?_;rw[nU])
     | (at_builtin;refine dU rfl _ _ 37 rfl Tryz.underlying37 kF rfl rfl s1 s2 p s3 ?_;intro v5 w5 hown5 hl5 hv5;replace s4:=s4 w5 hl5))
    go_roundw
    case rel=>exact⟨k+1,_,_,nM,rfl,bY,zH hown5,s4⟩
    case measure=>have:=m.out;simp[intOf];omega
  ·obtain rfl:=p1 h1;clear p1 hc1;by_cases h2:k<l2.length
   ·obtain⟨r,o2,E2,hcell2⟩:=hc2 h2;replace bY:=zH (bY (.inr (.inl h2)));rw[Int.add_zero]at bY;clear p2 hc2;obtain⟨s1,s2,s3,s4⟩:=d (q+y) oM;clear d
    go_wp2_with (first
     | (refine aj rfl (.tmp 41) (.tmp 42) _ rfl _ Tryz.underlying37 _ _ _ bD _ _ _ rfl _ _ rfl k rfl h2 r o2 E2.out ?_;rw[nU])
     | (at_builtin;refine dU rfl _ _ 37 rfl Tryz.underlying37 kF rfl rfl s1 s2 p s3 ?_;intro v5 w5 hown5 hl5 hv5;replace s4:=s4 w5 hl5))
    go_roundw
    case rel=>exact⟨k+1,_,_,nM,rfl,bY,zH hown5,s4⟩
    case measure=>have:=m.out;simp[intOf];omega
   ·obtain rfl:=p2 h2;clear p2 hc2;by_cases h3:0<q
    ·replace bY:=zH (bY (.inr (.inr h3)));rw[Int.add_zero,Int.add_zero]at bY;obtain⟨s1,s2,s3,s4⟩:=d q q0;rw[Int.emod_eq_of_lt q0 (oM:q<4294967296)]at s1 s2 s3 s4 bY
     have hk1:k<=max l1.length l2.length:=by
      have:=m.out;rcases Nat.lt_or_ge (max l1.length l2.length) k with h|h
      ·have:=j.out oM;omega
      ·exact h
     replace hk1:=zH hk1;clear d
     go_wp2_with (first
      | (at_builtin;refine dU rfl _ _ 37 rfl Tryz.underlying37 kF rfl rfl s1 s2 p s3 ?_;intro v5 w5 hown5 hl5 hv5;replace s4:=s4 w5 hl5))
     go_roundw
     case rel=>exact⟨k+1,_,_,nM,rfl,bY,zH hown5,s4⟩
     case measure=>have:=hk1.out;simp[intOf];omega
    ·obtain rfl:q=0:=oM;have hd:=zH (hinv.out.done h1 h2);clear bY d;go_wp2;go_ret;exact⟨_,u,rfl,si.1 n.out.isSl,hd.out,hb⟩
def qM (l1 l2:List Int) (i:Nat) (xs:List Int) (c:Int):Prop :=
 xs.length=i/\aG xs/\0<=c/\c<=1/\i<=l1.length/\ah xs+ah (l2.take i)=ah (l1.take i)+bv^i*c
theorem qM.start(b l2:List Int):qM b l2 0 [] 0:=⟨rfl,aG.nil,oM,oM,oM,by simp[ah]⟩
theorem qM.step{b l2:List Int}{i:Nat}{e:List Int}{c:Int}(h:qM b l2 i e c)(k:aG b)(l:aG l2)(s:i<b.length) :
  (b.getD i 0-c-l2.getD i 0<0->qM b l2 (i+1) (e++[b.getD i 0-c-l2.getD i 0+4294967296]) 1)/\(¬b.getD i 0-c-l2.getD i 0<0->qM b l2 (i+1) (e++[b.getD i 0-c-l2.getD i 0]) 0):=by
 obtain⟨d,j,o,p,q,r⟩:=h;have m:=k.getD i;have n:=l.getD i;rw[aP]at m n;constructor
 ·intro hd;refine⟨by simp[d],j.append (aG.nil.cons (by rw[aP];omega)),oM,oM,oM,?_⟩;rw[gP,aI,aI,d,Int.pow_succ];simp only[ah,Int.mul_zero,Int.add_zero];rw[<-aP];generalize bv^i=P at *;grind
 ·intro hd;refine⟨by simp[d],j.append (aG.nil.cons (by rw[aP];omega)),oM,oM,oM,?_⟩;rw[gP,aI,aI,d,Int.pow_succ];simp only[ah,Int.mul_zero,Int.add_zero];generalize bv^i=P at *;grind
theorem qM.done{b l2:List Int}{d:List Int}{c:Int}(h:qM b l2 b.length d c)(m:l2.length<=b.length)(kQ:ah l2<=ah b):ah d=ah b-ah l2/\d.length=b.length:=by
 obtain⟨e1,i,j,k,l,e⟩:=h;rw[tL oM,tL oM]at e;have:=gK i;rw[e1]at this;have hc:c=0\/c=1:=oM;rcases hc with rfl|rfl
 ·exact⟨oM,e1⟩
 ·rw[Int.mul_one]at e;omega
theorem Ct(v1 v2:Value)(l1 l2:List Int)(w:World)(h1:cO w v1 l1)(h2:cO w v2 l2)(b1:l1.length<=499000000)(B:l2.length<=l1.length)(kQ:ah l2<=ah l1) :
  Calls Tryz.prog 126 #[v1,v2] w (Kz w λl=>ah l=ah l1-ah l2/\l.length=l1.length):=by
 obtain⟨ao1,cap1,rfl,hc1,L1,m1⟩:=h1;obtain⟨ao2,cap2,rfl,hc2,L2,m2⟩:=h2
 go_enter Tryz.func126,Tryz.ntmps126
 go_wp2;have hown0:=gX EW w;have hb0:Below w.heap.size w (w.alloc (.cells #[] uT)):=(Below.refl _ _).alloc (nL _) _;change di EW w.heap.size (w.alloc (.cells #[] uT)) _ _ at hown0
 go_loopw [5,6,7] (λo c i wr=>∃(k:Nat)(r:List Int)(q:Int),i=.int .i64 k/\c=.int .i64 q/\Hid (qM l1 l2 k r q)/\Hid (di EW w.heap.size wr o r)/\Below w.heap.size w wr) (λ_ _ i _=>l1.length-(intOf i).toNat)
 case atStart=>exact⟨0,[],0,rfl,rfl,zH (qM.start l1 l2),zH hown0,hb0⟩
 case round =>
  clear hown0 hb0;obtain⟨k,r,q,rfl,rfl,hinv,j,hb⟩:=hrel;have q0:=hinv.out.2.2.1;have q1:=hinv.out.2.2.2.1;have I:=hinv.out.2.2.2.2.1;have n:r.length+([0]:List Int).length<=1000000000:=by have:=hinv.out.1;simp;omega
  by_cases h1:k<l1.length
  ·obtain⟨st1,st2⟩:=hinv.out.step L1 L2 h1;have p2:=kS l2 k;have a1:=(L1.getD k).1;have D:l1.getD k 0<4294967296:=(L1.getD k).2;have a2:=(L2.getD k).1;have F:l2.getD k 0<4294967296:=(L2.getD k).2;obtain⟨m,o1,e1,hcl1⟩:=m1 (by rw[dG];omega);have E1:=zH e1;have hcell1:=(hcl1.on hb).ucell k h1
   have hc2:k<l2.length->∃b o,Hid (ao2=some ⟨b,o,none⟩)/\wr.cell? ⟨b,o+k,none⟩=some (.int .u32 (l2.getD k 0)):=λh=>by obtain⟨b,o,e,hc⟩:=m2 (by rw[dG];omega);exact⟨b,o,zH e,(hc.on hb).ucell k h⟩
   generalize l1.getD k 0=x at *;generalize l2.getD k 0=y at *;have C:=j.out.base_le
   have d:∀z:Int,0<=z->z<4294967296->di EW w.heap.size (wr.alloc (.cells #[.int .u32 z] uT)) u5 r/\bU EW (wr.alloc (.cells #[.int .u32 z] uT)) (.slice (some ⟨wr.heap.size,0,none⟩) 1 1) [z]/\w.heap.size<=(wr.alloc (.cells #[.int .u32 z] uT)).heap.size /\
     ∀w5,Lr u5.ownBlock uT (wr.alloc (.cells #[.int .u32 z] uT)) w5->Below w.heap.size w w5:=λz z0 z1=>by
    have u:Below wr.heap.size wr (wr.alloc (.cells #[.int .u32 z] uT)):=(Below.refl _ _).alloc (nL _) _;have p:=hb.trans (u.mono hb.size);exact⟨j.out.on u,si.2 (cO.newOne wr (by rw[aP];exact⟨z0,z1⟩)),p.size,λw5 J=>p.trans (J.belowAt p.size (λk G=>(C k G).1))⟩
   clear e1 hcl1 j;have hxq1:-9223372036854775808<=x-q/\x-q<=9223372036854775807:=oM;by_cases h2:k<l2.length
   ·obtain⟨s,o2,E2,hcell2⟩:=hc2 h2;clear p2 hc2;by_cases hd:x - q - y<0
    ·replace st1:=zH (st1 hd);obtain⟨s1,s2,s3,s4⟩:=d (x - q - y+4294967296) oM oM;clear d st2
     go_wp2_with (first
      | (refine aj rfl (.tmp 16) (.tmp 17) _ rfl _ Tryz.underlying37 _ _ _ bD _ _ _ rfl _ _ rfl k rfl h1 m o1 E1.out ?_;rw[nU])
      | (refine aj rfl (.tmp 28) (.tmp 29) _ rfl _ Tryz.underlying37 _ _ _ bD _ _ _ rfl _ _ rfl k rfl h2 s o2 E2.out ?_;rw[nU])
      | (at_builtin;refine dU rfl _ _ 37 rfl Tryz.underlying37 kF rfl rfl s1 s2 n s3 ?_;intro v5 w5 hown5 hl5 hv5;replace s4:=s4 w5 hl5))
     go_roundw
     case rel=>exact⟨k+1,_,_,nM,rfl,st1,zH hown5,s4⟩
     case measure=>simp[intOf];omega
    ·replace st2:=zH (st2 hd);obtain⟨s1,s2,s3,s4⟩:=d (x - q - y) oM oM;clear d st1
     go_wp2_with (first
      | (refine aj rfl (.tmp 16) (.tmp 17) _ rfl _ Tryz.underlying37 _ _ _ bD _ _ _ rfl _ _ rfl k rfl h1 m o1 E1.out ?_;rw[nU])
      | (refine aj rfl (.tmp 28) (.tmp 29) _ rfl _ Tryz.underlying37 _ _ _ bD _ _ _ rfl _ _ rfl k rfl h2 s o2 E2.out ?_;rw[nU])
      | (at_builtin;refine dU rfl _ _ 37 rfl Tryz.underlying37 kF rfl rfl s1 s2 n s3 ?_;intro v5 w5 hown5 hl5 hv5;replace s4:=s4 w5 hl5))
     go_roundw
     case rel=>exact⟨k+1,_,_,nM,rfl,st2,zH hown5,s4⟩
     case measure=>simp[intOf];omega
   ·obtain rfl:=p2 h2;clear p2 hc2;rw[Int.sub_zero]at st1 st2;by_cases hd:x - q<0
    ·replace st1:=zH (st1 hd);obtain⟨s1,s2,s3,s4⟩:=d (x - q+4294967296) oM oM;clear d st2
     go_wp2_with (first
      | (refine aj rfl (.tmp 16) (.tmp 17) _ rfl _ Tryz.underlying37 _ _ _ bD _ _ _ rfl _ _ rfl k rfl h1 m o1 E1.out ?_;rw[nU])
      | (at_builtin;refine dU rfl _ _ 37 rfl Tryz.underlying37 kF rfl rfl s1 s2 n s3 ?_;intro v5 w5 hown5 hl5 hv5;replace s4:=s4 w5 hl5))
     go_roundw
     case rel=>exact⟨k+1,_,_,nM,rfl,st1,zH hown5,s4⟩
     case measure=>simp[intOf];omega
    ·replace st2:=zH (st2 hd);obtain⟨s1,s2,s3,s4⟩:=d (x - q) oM oM;clear d st1
     go_wp2_with (first
      | (refine aj rfl (.tmp 16) (.tmp 17) _ rfl _ Tryz.underlying37 _ _ _ bD _ _ _ rfl _ _ rfl k rfl h1 m o1 E1.out ?_;rw[nU])
      | (at_builtin;refine dU rfl _ _ 37 rfl Tryz.underlying37 kF rfl rfl s1 s2 n s3 ?_;intro v5 w5 hown5 hl5 hv5;replace s4:=s4 w5 hl5))
     go_roundw
     case rel=>exact⟨k+1,_,_,nM,rfl,st2,zH hown5,s4⟩
     case measure=>simp[intOf];omega
  ·obtain rfl:k=l1.length:=oM;have hd:=zH (hinv.out.done B kQ);go_wp2;go_ret;exact⟨_,r,rfl,si.1 j.out.isSl,hd.out,hb⟩
end Go.Proofs.YtopclbeomcggiaaGreat
end
section
namespace Q
open Go Go.RowKit Go.Proofs.YtopclbeomcggiaaGreat
def af.lim {g:Option Nat} {T:TypeId} (hT:uT≠T) (z:Int) (n:Nat):af (Lr g T):=af.of (λv w=>∃l,cO w v l/\ah l=z/\l.length<=n) (λ_ _ _ hb ⟨l,h,e⟩=>⟨l,h.lr hb hT,e⟩)
end Q
namespace Go.Proofs.YtopclbeomcggiaaGreat
open Go.RowKit Q
theorem Gs{w:World}{v:Value}{z:Int}{n:Nat}(h:∃l,cO w v l/\ah l=z/\l.length<=n)(d:n<=1000000000)(neg:Bool):Calls Tryz.prog 103 #[v,.bool neg] w (kY w (fZ neg z)):=by obtain⟨l,hu,rfl,b⟩:=h;exact iC neg v l w hu oM
theorem xC(n1 n2:Bool)(m1 m2:Value)(z1 z2:Int)(w:World)(h1:aZ w n1 m1 z1)(h2:aZ w n2 m2 z2)(c1:aF z1.natAbs<=CS)(c2:aF z2.natAbs<=CS) :
  Calls Tryz.prog 108 #[.agg #[.bool n1,m1],.agg #[.bool n2,m2]] w (kY w (z1+z2)):=by
 obtain⟨l1,ao1,cap1,rfl,hc1,b1,u1,L1,mm1,nn1,hp1,e1⟩:=h1.openS c1;obtain⟨l2,ao2,cap2,rfl,hc2,b2,u2,L2,mm2,nn2,hp2,e2⟩:=h2.openS c2;clear hc1 hc2 mm1 mm2 h1 h2 c1 c2 hp1 hp2;by_cases o:n1=n2
 ·subst o;have e:z1+z2=fZ n1 (ah l1+ah l2):=by rw[e1,e2];cases n1<;>simp[fZ]<;>omega
  rw[e];clear e e1 e2;have m:(n1==n1)=true:=sM
  go_enter Tryz.func108,Tryz.ntmps108
  go_upto_region 1 with (fail)
  refine rQ λW hb0 B1 B2 B3 n=>?_;have x1:=B1.at1 0 _ rfl;have x2:=B2.at1 0 _ rfl
  go_upto_region 2 with (fail)
  refine aC mixed (none) (0) (fK.none) [.eq (.pointer (some ⟨w.heap.size,1,none⟩)),.eq (.slice ao1 l1.length cap1),.eq (.pointer (some ⟨w.heap.size+1,1,none⟩)),.eq (.slice ao2 l2.length cap2),.lim dM (ah l1+ah l2) 600000000,.eq (.pointer (some ⟨w.heap.size,0,none⟩)),.eq (.bool n1),.int dM ((fZ n1 (ah l1+ah l2)))] [10,11,12,13,14,15,16,17] rfl rfl rfl rfl ⟨λA _ hA _ _ _=>have h2:A.eval (.tmp 2)=.pointer (some ⟨w.heap.size,0,none⟩):=hA 2 rfl;pZ rfl,λA _ _ hL _ he=>have hb:=hL.below;have h10:=eT 10 (he.1 rfl);have c0:=((B1).on hb).at1 1 _ rfl;pZ rfl,λA _ hA _ _ _=>have h3:A.eval (.tmp 3)=.pointer (some ⟨w.heap.size+1,0,none⟩):=hA 3 rfl;pZ rfl,λA _ _ hL _ he=>have hb:=hL.below;have h12:=eT 12 (he.1 rfl);have c0:=((B2).on hb).at1 1 _ rfl;pZ rfl,?_,λA _ hA _ _ _=>have h2:A.eval (.tmp 2)=.pointer (some ⟨w.heap.size,0,none⟩):=hA 2 rfl;pZ rfl,λA _ _ hL _ he=>have hb:=hL.below;have h15:=eT 15 (he.1 rfl);have c0:=((B1).on hb).at1 0 _ rfl;pZ rfl,?_,trivial⟩ ?_
  ·intro A w1 hA hL hS he;have hb:=hS rfl;have h11:=eT 11 (he.1 rfl);have h13:=eT 13 (he.2.1 rfl);have hf0:=eF A 125;refine ae rfl ?_;refine dI (f:=125) (args:=#[.slice ao1 l1.length cap1,.slice ao2 l2.length cap2]) rfl rfl ?_ ?_
   ·exact gZ
   ·refine(OL _ _ l1 l2 _ ((u1.on hb0).on hb) ((u2.on hb0).on hb) oM oM).mono ?_;rintro e w' ⟨v,l,rfl,hu,hp,d⟩;exact⟨_,rfl,d,l,hu,hp.1,oM⟩
  ·intro A w1 hA hL hS he;have hb:=hS rfl;obtain⟨v14,h14,f14⟩:=fT 14 (he.1 rfl);have h16:=eT 16 (he.2.1 rfl);have hf0:=eF A 103;exact cP (f:=103) (args:=#[v14,.bool n1]) (Gs f14 oM n1)
  ·intro W2 hL2;have hb2:=hL2.below;simp only[aT,af.eq,af.ret,af.int,af.lim,af.of,lZ];rintro _ - _ ⟨n7,m7,rfl,i7⟩;go_frame;have b:=B3.on hb2
   go_wp2_with (refine az rfl _ (.tmp 4) (.tmp 17) rfl _ _ _ _ rfl rfl b rfl aK i7.ones ?_;intro w3 R j)
   exact dH rfl rfl rfl R Tryz.underlying39 rfl aK (jd hb0 hb2 oM b i7 j)
 ·have m:(n1==n2)=false:=by simpa using o
  have HL1:=λW (hb:Below w.heap.size w W)=>xA _ _ l1 l2 W (u1.on hb) (u2.on hb) oM oM nn1 nn2
  go_enter Tryz.func108,Tryz.ntmps108
  go_upto_region 1 with (fail)
  refine rQ λW hb0 B1 B2 B3 n=>?_;have x1:=B1.at1 0 _ rfl;have x2:=B2.at1 0 _ rfl;have x3:=B1.at1 1 _ rfl;have x4:=B2.at1 1 _ rfl
  go_upto_region 3 with (fail)
  by_cases k:ah l1<ah l2
  ·simp only[k,decide_true]at HL1;have e:z1+z2=fZ n2 (ah l2-ah l1):=by rw[e1,e2];cases n1<;>cases n2<;>simp[fZ]at *<;>omega
   replace e:=zH e;clear e1 e2;have i:=iW L2 L1 nn1 oM
   go_upto_region 4 with (go_at_call 102;refine(HL1 W hb0).mono ?_;rintro en w1 ⟨rfl,hb1⟩)
   have hb01:=hb0.trans (hb1.mono hb0.size);replace B1:=B1.on hb1;replace B2:=B2.on hb1;replace B3:=B3.on hb1;refine aC mixed (none) (0) (fK.none) [.eq (.pointer (some ⟨w.heap.size+1,1,none⟩)),.eq (.slice ao2 l2.length cap2),.eq (.pointer (some ⟨w.heap.size,1,none⟩)),.eq (.slice ao1 l1.length cap1),.lim dM (ah l2-ah l1) 600000000,.eq (.pointer (some ⟨w.heap.size+1,0,none⟩)),.eq (.bool n2),.int dM ((fZ n2 (ah l2-ah l1)))] [23,24,25,26,27,28,29,30] rfl rfl rfl rfl ⟨λA _ hA _ _ _=>have h3:A.eval (.tmp 3)=.pointer (some ⟨w.heap.size+1,0,none⟩):=hA 3 rfl;pZ rfl,λA _ _ hL _ he=>have hb:=hL.below;have h23:=eT 23 (he.1 rfl);have c0:=((B2).on hb).at1 1 _ rfl;pZ rfl,λA _ hA _ _ _=>have h2:A.eval (.tmp 2)=.pointer (some ⟨w.heap.size,0,none⟩):=hA 2 rfl;pZ rfl,λA _ _ hL _ he=>have hb:=hL.below;have h25:=eT 25 (he.1 rfl);have c0:=((B1).on hb).at1 1 _ rfl;pZ rfl,?_,λA _ hA _ _ _=>have h3:A.eval (.tmp 3)=.pointer (some ⟨w.heap.size+1,0,none⟩):=hA 3 rfl;pZ rfl,λA _ _ hL _ he=>have hb:=hL.below;have h28:=eT 28 (he.1 rfl);have c0:=((B2).on hb).at1 0 _ rfl;pZ rfl,?_,trivial⟩ ?_
   ·intro A w1 hA hL hS he;have hb:=hS rfl;have h24:=eT 24 (he.1 rfl);have h26:=eT 26 (he.2.1 rfl);have hf0:=eF A 126;refine ae rfl ?_;refine dI (f:=126) (args:=#[.slice ao2 l2.length cap2,.slice ao1 l1.length cap1]) rfl rfl ?_ ?_
    ·exact gZ
    ·refine(Ct _ _ l2 l1 _ ((u2.on hb01).on hb) ((u1.on hb01).on hb) oM i oM).mono ?_;rintro e w' ⟨v,l,rfl,hu,hp,d⟩;exact⟨_,rfl,d,l,hu,hp.1,oM⟩
   ·intro A w1 hA hL hS he;have hb:=hS rfl;obtain⟨v27,h27,f27⟩:=fT 27 (he.1 rfl);have h29:=eT 29 (he.2.1 rfl);have hf0:=eF A 103;exact cP (f:=103) (args:=#[v27,.bool n2]) (Gs f27 oM n2)
   ·intro W2 hL2;have hb2:=hL2.below;simp only[aT,af.eq,af.ret,af.int,af.lim,af.of,lZ];rintro _ - _ ⟨n7,m7,rfl,i7⟩;go_frame;have b:=B3.on hb2
    go_wp2_with (refine az rfl _ (.tmp 4) (.tmp 30) rfl _ _ _ _ rfl rfl b rfl aK i7.ones ?_;intro w3 R j)
    exact dH rfl rfl rfl R Tryz.underlying39 rfl aK (by rw[e.out];exact jd hb01 hb2 oM b i7 j)
  ·simp only[k,decide_false]at HL1;have e:z1+z2=fZ n1 (ah l1-ah l2):=by rw[e1,e2];cases n1<;>cases n2<;>simp[fZ]at *<;>omega
   replace e:=zH e;clear e1 e2;have i:=iW L1 L2 nn2 oM
   go_upto_region 5 with (go_at_call 102;refine(HL1 W hb0).mono ?_;rintro en w1 ⟨rfl,hb1⟩)
   have hb01:=hb0.trans (hb1.mono hb0.size);replace B1:=B1.on hb1;replace B2:=B2.on hb1;replace B3:=B3.on hb1;refine aC mixed (none) (0) (fK.none) [.eq (.pointer (some ⟨w.heap.size,1,none⟩)),.eq (.slice ao1 l1.length cap1),.eq (.pointer (some ⟨w.heap.size+1,1,none⟩)),.eq (.slice ao2 l2.length cap2),.lim dM (ah l1-ah l2) 600000000,.eq (.pointer (some ⟨w.heap.size,0,none⟩)),.eq (.bool n1),.int dM ((fZ n1 (ah l1-ah l2)))] [31,32,33,34,35,36,37,38] rfl rfl rfl rfl ⟨λA _ hA _ _ _=>have h2:A.eval (.tmp 2)=.pointer (some ⟨w.heap.size,0,none⟩):=hA 2 rfl;pZ rfl,λA _ _ hL _ he=>have hb:=hL.below;have h31:=eT 31 (he.1 rfl);have c0:=((B1).on hb).at1 1 _ rfl;pZ rfl,λA _ hA _ _ _=>have h3:A.eval (.tmp 3)=.pointer (some ⟨w.heap.size+1,0,none⟩):=hA 3 rfl;pZ rfl,λA _ _ hL _ he=>have hb:=hL.below;have h33:=eT 33 (he.1 rfl);have c0:=((B2).on hb).at1 1 _ rfl;pZ rfl,?_,λA _ hA _ _ _=>have h2:A.eval (.tmp 2)=.pointer (some ⟨w.heap.size,0,none⟩):=hA 2 rfl;pZ rfl,λA _ _ hL _ he=>have hb:=hL.below;have h36:=eT 36 (he.1 rfl);have c0:=((B1).on hb).at1 0 _ rfl;pZ rfl,?_,trivial⟩ ?_
   ·intro A w1 hA hL hS he;have hb:=hS rfl;have h32:=eT 32 (he.1 rfl);have h34:=eT 34 (he.2.1 rfl);have hf0:=eF A 126;refine ae rfl ?_;refine dI (f:=126) (args:=#[.slice ao1 l1.length cap1,.slice ao2 l2.length cap2]) rfl rfl ?_ ?_
    ·exact gZ
    ·refine(Ct _ _ l1 l2 _ ((u1.on hb01).on hb) ((u2.on hb01).on hb) oM i oM).mono ?_;rintro e w' ⟨v,l,rfl,hu,hp,d⟩;exact⟨_,rfl,d,l,hu,hp.1,oM⟩
   ·intro A w1 hA hL hS he;have hb:=hS rfl;obtain⟨v35,h35,f35⟩:=fT 35 (he.1 rfl);have h37:=eT 37 (he.2.1 rfl);have hf0:=eF A 103;exact cP (f:=103) (args:=#[v35,.bool n1]) (Gs f35 oM n1)
   ·intro W2 hL2;have hb2:=hL2.below;simp only[aT,af.eq,af.ret,af.int,af.lim,af.of,lZ];rintro _ - _ ⟨n7,m7,rfl,i7⟩;go_frame;have b:=B3.on hb2
    go_wp2_with (refine az rfl _ (.tmp 4) (.tmp 38) rfl _ _ _ _ rfl rfl b rfl aK i7.ones ?_;intro w3 R j)
    exact dH rfl rfl rfl R Tryz.underlying39 rfl aK (by rw[e.out];exact jd hb01 hb2 oM b i7 j)
theorem IK(n1 n2:Bool)(m1 m2:Value)(z1 z2:Int)(w:World)(h1:aZ w n1 m1 z1)(h2:aZ w n2 m2 z2)(c1:aF z1.natAbs<=CS)(c2:aF z2.natAbs<=CS) :
  Calls Tryz.prog 140 #[.agg #[.bool n1,m1],.agg #[.bool n2,m2]] w (kY w (z1-z2)):=by
 obtain⟨a1,k1,q1,rfl,-,-⟩:=h1.shape;obtain⟨a2,k2,q2,rfl,-,-⟩:=h2.shape;have c3:aF (-z2).natAbs<=CS:=by rw[Int.natAbs_neg];exact c2
 rw[Int.sub_eq_add_neg]
 go_enter Tryz.func140,Tryz.ntmps140
 go_upto_region 1 with (fail)
 refine rQ λW hb0 B1 B2 B3 k=>?_;refine aC mixed (none) (0) (fK.none) [.eq (.agg #[.bool n1,.slice a1 k1 q1]),.eq (.agg #[.bool n2,.slice a2 k2 q2]),.int dM ((-z2)),.int dM ((z1+-z2))] [5,6,7,8] rfl rfl rfl rfl ⟨λA _ hA hL _ _=>have hb:=hL.below;have h2:A.eval (.tmp 2)=.pointer (some ⟨w.heap.size,0,none⟩):=hA 2 rfl;have c0:=((B1).on hb).at1 0 _ rfl;have c1:=((B1).on hb).at1 1 _ rfl;pZ rfl,λA _ hA hL _ _=>have hb:=hL.below;have h3:A.eval (.tmp 3)=.pointer (some ⟨w.heap.size+1,0,none⟩):=hA 3 rfl;have c0:=((B2).on hb).at1 0 _ rfl;have c1:=((B2).on hb).at1 1 _ rfl;pZ rfl,λA _ _ _ hS he=>have hb:=hS rfl;have h6:=eT 6 (he.1 rfl);have hf0:=eF A 124;cP (f:=124) (args:=#[.agg #[.bool n2,.slice a2 k2 q2]]) (xz _ _ _ _ ((h2.on hb0).on hb) c2),?_,trivial⟩ ?_
 ·intro A w1 hA hL hS he;have hb:=hS rfl;have h5:=eT 5 (he.1 rfl);obtain⟨v7,h7,f7⟩:=fT 7 (he.2.1 rfl);have hf0:=eF A 108;refine ae rfl ?_;refine dI (f:=108) (args:=#[.agg #[.bool n1,.slice a1 k1 q1],v7]) rfl rfl ?_ ?_
  ·exact gZ
  ·obtain⟨n7,m7,rfl,i7⟩:=f7;refine(xC _ _ _ _ _ _ _ ((h1.on hb0).on hb) i7 c1 c3).mono ?_;rintro e w' ⟨neg,m,rfl,j,d⟩;exact⟨_,rfl,d,neg,m,rfl,j⟩
 ·intro W2 hL2;have hb2:=hL2.below;simp only[aT,af.eq,af.ret,af.int,af.lim,af.of,lZ];rintro _ - _ ⟨n7,m7,rfl,i7⟩;go_frame;have b:=B3.on hb2
  go_wp2_with (refine az rfl _ (.tmp 4) (.tmp 8) rfl _ _ _ _ rfl rfl b rfl aK i7.ones ?_;intro w3 R i)
  exact dH rfl rfl rfl R Tryz.underlying39 rfl aK (jd hb0 hb2 oM b i7 i)
end Go.Proofs.YtopclbeomcggiaaGreat
end
