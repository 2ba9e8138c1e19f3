/- Short steps. -/
import Derived.Test.YtopclbeomcggiaaGreatWK2
set_option linter.unusedVariables false
set_option linter.unusedSimpArgs false
set_option maxHeartbeats 16000000
set_option maxRecDepth 100000
section
namespace Q
open Go Go.RowKit Go.Proofs.YtopclbeomcggiaaGreat
theorem cV {P:Program} {f:FuncId} {args:Array Value} {w:World} {K K':Ending->World->Prop} (h:Calls P f args w K)
  (m:∀ e w',K e w'->K' e w':=by first|(rintro e w' ⟨v,rfl,hi,hb'⟩;exact⟨_,rfl,hb',hi⟩)|(rintro e w' ⟨rfl,hb⟩;exact⟨_,rfl,hb,rfl⟩)|(rintro e w' ⟨n,m,rfl,hi,hb'⟩;exact⟨_,rfl,hb',n,m,rfl,hi⟩)|(rintro e w' ⟨cs,rfl,hi,hb'⟩;exact⟨_,rfl,hb',cs,rfl,hi⟩)):Calls P f args w K':=h.mono m
section
variable {g:Option Nat} {T:TypeId} {w:World} {o:Oper} {A:Act} {i:Nat} {pu fr:Nat->Bool} {φ:Nat->Value->World->Prop} {R:Exit->Act->World->Prop} {P:Program} {ops:List Oper} {Y:Prop} {c:Value}
abbrev GA (ops:List Oper) (o:Oper) (A:Act) (P:Program) (w:World) (g:Option Nat) (T:TypeId) (pu fr:Nat->Bool) (φ:Nat->Value->World->Prop) (i:Nat) (R:Exit->Act->World->Prop) (Y:Prop):Prop:=Gp ops o A (o.wp P A w (jK (Lr g T) pu fr φ o i A w) R) Y
theorem fT (t:Nat) {A:Act} {L:World->World->Prop} {f:af L} (h:f.p (A.eval (.tmp t)) w):∃ v,A.eval (.tmp t)=v/\f.p v w:=⟨_,rfl,h⟩
theorem xM {x:Operand} (hop:o.op=.move x) (h:φ i (A.eval x) w) (hg:o.guard=none:=by rfl) (hp:pu i=true:=by rfl):GA ops o A P w g T pu fr φ i R Y:=ae hg (Gs hop hp h)
theorem yM {x:Operand} {j d:Nat} {b:Bool} (hv:A.eval (.tmp d)=.bool b) (hop:o.op=.move x) (h:φ i (A.eval x) w) (hg:o.guard=some (j,b):=by rfl) (hd:bF ops j=some d:=by rfl) (hp:pu i=true:=by rfl):GA ops o A P w g T pu fr φ i R Y:=aJ hg hd hv (Gs hop hp h)
theorem pZ (h:φ i c w) (hg:o.guard=none:=by rfl) (hp:pu i=true:=by rfl) (hrun:(execOp A.eval o).run P w=.ok (.value c) w:=by generalize A.eval=ev at *;go_simp):GA ops o A P w g T pu fr φ i R Y:=ae hg (aC hp h hrun)
theorem yZ {j d:Nat} {b:Bool} (hv:A.eval (.tmp d)=.bool b) (h:φ i c w) (hg:o.guard=some (j,b):=by rfl) (hd:bF ops j=some d:=by rfl) (hp:pu i=true:=by rfl) (hrun:(execOp A.eval o).run P w=.ok (.value c) w:=by generalize A.eval=ev at *;go_simp):GA ops o A P w g T pu fr φ i R Y:=aJ hg hd hv (aC hp h hrun)
theorem cP {f:FuncId} {args:Array Value} {K:Ending->World->Prop} (h:Calls P f args w K) (hg:o.guard=none:=by rfl) (hp:pu i=false:=by rfl) (hf:fr i=false:=by rfl) (hrun:(execOp A.eval o).run P w=.ok (.enter f args) w:=by generalize A.eval=ev at *;go_simp)
  (m:∀ e w',K e w'->∃ v,e=.returned v/\Below w.heap.size w w'/\φ i v w':=by first|(rintro e w' ⟨v,rfl,hi,hb'⟩;exact⟨_,rfl,hb',hi⟩)|(rintro e w' ⟨rfl,hb⟩;exact⟨_,rfl,hb,rfl⟩)|(rintro e w' ⟨n,m,rfl,hi,hb'⟩;exact⟨_,rfl,hb',n,m,rfl,hi⟩)|(rintro e w' ⟨cs,rfl,hi,hb'⟩;exact⟨_,rfl,hb',cs,rfl,hi⟩)):GA ops o A P w g T pu fr φ i R Y:=ae hg (fI hp hf hrun (h.mono m))
theorem cY {f:FuncId} {args:Array Value} {K:Ending->World->Prop} {j d:Nat} {b:Bool} (hv:A.eval (.tmp d)=.bool b) (h:Calls P f args w K) (hg:o.guard=some (j,b):=by rfl) (hd:bF ops j=some d:=by rfl) (hp:pu i=false:=by rfl) (hf:fr i=false:=by rfl) (hrun:(execOp A.eval o).run P w=.ok (.enter f args) w:=by generalize A.eval=ev at *;go_simp)
  (m:∀ e w',K e w'->∃ v,e=.returned v/\Below w.heap.size w w'/\φ i v w':=by first|(rintro e w' ⟨v,rfl,hi,hb'⟩;exact⟨_,rfl,hb',hi⟩)|(rintro e w' ⟨rfl,hb⟩;exact⟨_,rfl,hb,rfl⟩)|(rintro e w' ⟨n,m,rfl,hi,hb'⟩;exact⟨_,rfl,hb',n,m,rfl,hi⟩)|(rintro e w' ⟨cs,rfl,hi,hb'⟩;exact⟨_,rfl,hb',cs,rfl,hi⟩)):GA ops o A P w g T pu fr φ i R Y:=aJ hg hd hv (fI hp hf hrun (h.mono m))
theorem xI {t el:TypeId} {x ix:Operand} {size n c:Nat} {k:IntKind} {z:Int} (hop:o.op=.indexAddr t x ix) (ht:P.underlying t=some (.slice el)) (b off j:Nat) (hj:j<n) (hx:A.eval x=.slice (some ⟨b,off,none⟩) n c) (hi:A.eval ix=.int k z)
  (hp:pu i=true:=by rfl) (h:φ i (.pointer (some ⟨b,off+j*size,none⟩)) w:=by rfl) (hs:(P.info? el).map (·.size)=some size:=by kernel_rfl) (hz:z=(j:Int):=by first|rfl|simp|omega):o.wp P A w (jK (Lr g T) pu fr φ o i A w) R :=
 aC hp h (Fb hop (by rw [hx,hi];exact Dn ht hs w b off n c j k z hz hj))
theorem xL {t:TypeId} {x:Operand} {b off m:Nat} {cs:List Value} {d:TypeDesc} (hop:o.op=.load t x) (hc:w.rangeAt b off cs) (hu:P.underlying t=some d) (hl:cs.length=m) (hx:A.eval x=.pointer (some ⟨b,off,none⟩))
  (hp:pu i=true:=by rfl) (h:φ i (.agg cs.toArray) w:=by rfl) (hd:d.isRow=true:=by rfl) (hi:(P.info? t).map (·.size)=some m:=by kernel_rfl):o.wp P A w (jK (Lr g T) pu fr φ o i A w) R :=
 aC hp h (G5 hop (by rw [hx];exact run_loadAt_mid w _ _ _ _ _ hc hu hd (by rw [hl];exact hi)))
theorem pI {t el:TypeId} {x ix:Operand} {size n c:Nat} {k:IntKind} {z:Int} (hop:o.op=.indexAddr t x ix) (ht:P.underlying t=some (.slice el)) (b off j:Nat) (hj:j<n) (hx:A.eval x=.slice (some ⟨b,off,none⟩) n c) (hi:A.eval ix=.int k z)
  (hg:o.guard=none:=by rfl) (hp:pu i=true:=by rfl) (h:φ i (.pointer (some ⟨b,off+j*size,none⟩)) w:=by rfl) (hs:(P.info? el).map (·.size)=some size:=by kernel_rfl) (hz:z=(j:Int):=by first|rfl|simp|omega):GA ops o A P w g T pu fr φ i R Y:=ae hg (xI hop ht b off j hj hx hi hp h hs hz)
theorem pL {t:TypeId} {x:Operand} {b off m:Nat} {cs:List Value} {d:TypeDesc} (hop:o.op=.load t x) (hc:w.rangeAt b off cs) (hu:P.underlying t=some d) (hl:cs.length=m) (hx:A.eval x=.pointer (some ⟨b,off,none⟩))
  (hg:o.guard=none:=by rfl) (hp:pu i=true:=by rfl) (h:φ i (.agg cs.toArray) w:=by rfl) (hd:d.isRow=true:=by rfl) (hi:(P.info? t).map (·.size)=some m:=by kernel_rfl):GA ops o A P w g T pu fr φ i R Y:=ae hg (xL hop hc hu hl hx hp h hd hi)
end
end Q
namespace Go.Proofs.YtopclbeomcggiaaGreat
open Go Go.RowKit Q
section
variable {g:Option Nat} {T:TypeId} {w:World} {o:Oper} {A:Act} {i:Nat} {pu fr:Nat->Bool} {φ:Nat->Value->World->Prop} {R:Exit->Act->World->Prop} {x:Operand} {b off:Nat}
theorem yQ (hop:o.op=.fieldAddr 43 x 0) (hx:A.eval x=.pointer (some ⟨b,off,none⟩)) (hp:pu i=true:=by rfl) (h:φ i (.pointer (some ⟨b,off,none⟩)) w:=by rfl):o.wp Tryz.prog A w (jK (Lr g T) pu fr φ o i A w) R :=
 aC hp h (vW hop (by rw [hx];exact CP _ _ _))
theorem Fe (hop:o.op=.fieldAddr 43 x 1) (hx:A.eval x=.pointer (some ⟨b,off,none⟩)) (hp:pu i=true:=by rfl) (h:φ i (.pointer (some ⟨b,off+4,none⟩)) w:=by rfl):o.wp Tryz.prog A w (jK (Lr g T) pu fr φ o i A w) R :=
 aC hp h (vW hop (by rw [hx];exact CQ _ _ _))
end
end Go.Proofs.YtopclbeomcggiaaGreat
end
section
namespace Q
open Go Go.RowKit Go.Proofs.YtopclbeomcggiaaGreat
def bU.ratE (q:Rat) (c:Int):bU:=bU.of (fun v w=>∃ x,v=.tuple #[x,.int .i64 c]/\bV w x q) (fun _ _ _ hb ⟨x,e,h⟩=>⟨x,e,h.on hb⟩)
def af.ratE {g:Option Nat} {T:TypeId} (hT:uT≠T) (q:Rat) (c:Int):af (Lr g T):=af.of (fun v w=>∃ x,v=.tuple #[x,.int .i64 c]/\bV w x q) (fun _ _ _ hb ⟨x,e,h⟩=>⟨x,e,h.lr hb hT⟩)
end Q
namespace Go.Proofs.YtopclbeomcggiaaGreat
open Go.RowKit Q
def Ff (w:World) (q:Rat) (c:Int) (e:Ending) (w':World):Prop:=∃ v,e=.returned (.tuple #[v,.int .i64 c])/\bV w' v q/\Below w.heap.size w w'
theorem qh {P:Program} {fn:Func} {p u:Tmp} {ty:TypeId} (h:fn.results=#[.cell p ty,.tmp u]) (tmps:Array Value) (w:World) (g:Nat) {d:TypeDesc} (hu:P.underlying ty=some d)
  (hd:(match d with|.struct _|.array _ _=>true|_=>false)=true) {T:TypeId} {c:List Value} (hp:tmps.getD p undef=.pointer (some ⟨g,0,none⟩)) (h1:Blk w g T c)
  (hi1:(P.info? ty).map (·.size)=some c.length) :
  (results fn tmps).run P w=.ok (.tuple #[.agg c.toArray,tmps.getD u undef]) w:=by
 have hp':tmps[p]?.getD undef=.pointer (some ⟨g,0,none⟩):=by simpa using hp
 have e1:=run_loadVar_row (P:=P) w g T ty c.toArray (0,0) d h1 hu hd (by simpa using hi1);simp [results,h,hp',asAddr,Sem.run_bind,e1]
theorem Su (n1 n2:Bool) (m1 m2:Value) (z1 z2:Int) (w:World) (h1:aZ w n1 m1 z1) (h2:aZ w n2 m2 z2) (c1:aI z1.natAbs<=iT / 4) (c2:aI z2.natAbs<=iT / 4) (hz:z2≠0) :
  Calls Tryz.prog 83 #[.agg #[.bool n1,m1],.agg #[.bool n2,m2]] w (Ff w (Rat.divInt z1 z2) 0):=by
 obtain⟨a1,k1,q1,rfl,-,-⟩:=h1.shape;obtain⟨a2,k2,q2,rfl,-,-⟩:=h2.shape;have hs:(iV z2 == 0)=false:=by unfold iV;rw [if_neg hz];split <;> rfl
 go_enter Tryz.func83,Tryz.ntmps83
 go_upto_region 1 with (fail)
 refine rY fun W hb0 B1 B2 B3 hsz=>?_;have x1:=B1.at1 0 _ rfl;have x2:=B1.at1 1 _ rfl;have y1:=B2.at1 0 _ rfl;have y2:=B2.at1 1 _ rfl
 go_upto_region 3 with (go_at_call 109;refine (Af _ _ _ _ (h2.on hb0)).mono ?_;rintro e w1 ⟨rfl,hb1⟩)
 have hbB:=hb0.trans (hb1.mono hb0.size);have C1:=B1.on hb1;have C2:=B2.on hb1;have C3:=B3.on hb1;clear x1 x2 y1 y2;have x1:=C1.at1 0 _ rfl;have x2:=C1.at1 1 _ rfl;have y1:=C2.at1 0 _ rfl;have y2:=C2.at1 1 _ rfl
 go_wp2_with (first
  | (go_at_call 110;refine (uN _ _ _ _ _ _ _ (h1.on hbB) (h2.on hbB) c1 c2 hz).mono ?_;rintro e w2 ⟨v,rfl,hv,hb2⟩;obtain⟨t1,b1,g1,d1,t2,b2,g2,d2,rfl,j1,j2⟩:=hv)
  | (refine aA rfl _ (.tmp 4) (.tmp 12) rfl _ _ _ _ rfl rfl (C3.on hb2) rfl dL dQ ?_;intro w3 R gr))
 have hC:=C3.on hb2;have hbb:=hbB.trans (hb2.mono hbB.size);refine bodyPost_ret (qh rfl _ _ _ Tryz.underlying41 rfl rfl R dL) rfl ⟨_,rfl,bV.stored ⟨t1,b1,g1,d1,t2,b2,g2,d2,rfl,j1,j2⟩ gr hC (by decide),hbb.trans ((aM gr (Nat.le_of_lt hC.lt) (Nat.le_refl _)).mono (by omega))⟩
theorem G6 (v1 v2:Value) (p q:Rat) (w:World) (h1:bV w v1 p) (h2:bV w v2 q) (k1:Rk p) (k2:Rk q) (hz:q≠0) :
  Calls Tryz.prog 46 #[v1,v2] w (Ff w (p / q) 0):=by
 rw [<- Jz];obtain⟨s1,a1,l1,c1,s2,a2,l2,c2,rfl,i1,i2⟩:=h1;obtain⟨s3,a3,l3,c3,s4,a4,l4,c4,rfl,i3,i4⟩:=h2;have cb:aI (p.num*(q.den:Int)).natAbs<=iT / 4:=by have:=qZ k1 k2;unfold iT at *;omega
 have cb':aI ((p.den:Int)*q.num).natAbs<=iT / 4:=by have:=qZ k2 k1;rw [Int.mul_comm];unfold iT at *;omega
 have dz:(p.den:Int)*q.num≠0:=by
  intro h;rcases Int.mul_eq_zero.1 h with h|h
  ·have:=p.den_nz;omega
  ·exact hz (Rat.num_eq_zero.1 h)
 go_enter Tryz.func46,Tryz.ntmps46
 go_upto_region 1 with (fail)
 refine rY fun W hb0 B1 B2 B3 hsz=>?_;replace i1:=i1.on hb0;replace i2:=i2.on hb0;replace i3:=i3.on hb0;replace i4:=i4.on hb0;refine iw mixed [.eq (.pointer (some ⟨w.heap.size,0,none⟩)),.eq (.agg #[.bool s1,.slice a1 l1 c1]),.eq (.pointer (some ⟨w.heap.size+1,2,none⟩)),.eq (.agg #[.bool s4,.slice a4 l4 c4]),.ints2 (p.num) ((q.den:Int)),.int ((p.num*(q.den:Int))),.eq (.pointer (some ⟨w.heap.size,2,none⟩)),.eq (.agg #[.bool s2,.slice a2 l2 c2]),.eq (.pointer (some ⟨w.heap.size+1,0,none⟩)),.eq (.agg #[.bool s3,.slice a3 l3 c3]),.ints2 ((p.den:Int)) (q.num),.int (((p.den:Int)*q.num)),.ratE (Rat.divInt (p.num*(q.den:Int)) ((p.den:Int)*q.num)) 0,.rat (Rat.divInt (p.num*(q.den:Int)) ((p.den:Int)*q.num)),.eq (.int .i64 0)] [6,7,8,9,10,11,12,13,14,15,16,17,18,19,20] rfl rfl rfl ⟨?_,?_,?_,?_,?_,?_,?_,?_,?_,?_,?_,?_,?_,?_,?_,trivial⟩ ?_
 ·intro A w1 hA hb he;have h2:A.eval (.tmp 2)=.pointer (some ⟨w.heap.size,0,none⟩):=hA 2 rfl;refine aK rfl ?_;exact gZ
 ·intro A w1 hA hb he;have h6:A.eval (.tmp 6)=.pointer (some ⟨w.heap.size,0,none⟩):=he.1 rfl;have c0:=(B1.on hb).at1 0 _ rfl;have c1:=(B1.on hb).at1 1 _ rfl;refine aK rfl ?_;exact gZ
 ·intro A w1 hA hb he;have h3:A.eval (.tmp 3)=.pointer (some ⟨w.heap.size+1,0,none⟩):=hA 3 rfl;refine aK rfl ?_;exact gZ
 ·intro A w1 hA hb he;have h8:A.eval (.tmp 8)=.pointer (some ⟨w.heap.size+1,2,none⟩):=he.1 rfl;have c0:=(B2.on hb).at1 2 _ rfl;have c1:=(B2.on hb).at1 3 _ rfl;refine aK rfl ?_;exact gZ
 ·intro A w1 hA hb he;have h7:A.eval (.tmp 7)=.agg #[.bool s1,.slice a1 l1 c1]:=he.1 rfl;have h9:A.eval (.tmp 9)=.agg #[.bool s4,.slice a4 l4 c4]:=he.2.1 rfl;have jx:=i1.on hb;obtain⟨_,_,_,ex,-⟩:=jx.shape;cases ex;have jy:=i4.on hb;obtain⟨_,_,_,ey,-⟩:=jy.shape;cases ey;exact kZ jx jy (by generalize A.eval=ev at *;go_simp)
 ·intro A w1 hA hb he;have f10:((.ints2 (p.num) ((q.den:Int)):bU)).p (A.eval (.tmp 10)) w1:=he.1 rfl;obtain⟨v10,h10⟩:∃ v,A.eval (.tmp 10)=v:=⟨_,rfl⟩;rw [h10] at f10;have hf0:=eF A 84;refine cO (f:=84) (args:=#[v10]) ?_ ?_
  ·exact gZ
  ·refine (mq _ _ _ _ f10 k1.num k2.den).mono ?_;rintro e w' ⟨neg,m,rfl,hi,hb⟩;exact⟨_,rfl,hb,neg,m,rfl,hi⟩
 ·intro A w1 hA hb he;have h2:A.eval (.tmp 2)=.pointer (some ⟨w.heap.size,0,none⟩):=hA 2 rfl;refine aK rfl ?_;exact gZ
 ·intro A w1 hA hb he;have h12:A.eval (.tmp 12)=.pointer (some ⟨w.heap.size,2,none⟩):=he.1 rfl;have c0:=(B1.on hb).at1 2 _ rfl;have c1:=(B1.on hb).at1 3 _ rfl;refine aK rfl ?_;exact gZ
 ·intro A w1 hA hb he;have h3:A.eval (.tmp 3)=.pointer (some ⟨w.heap.size+1,0,none⟩):=hA 3 rfl;refine aK rfl ?_;exact gZ
 ·intro A w1 hA hb he;have h14:A.eval (.tmp 14)=.pointer (some ⟨w.heap.size+1,0,none⟩):=he.1 rfl;have c0:=(B2.on hb).at1 0 _ rfl;have c1:=(B2.on hb).at1 1 _ rfl;refine aK rfl ?_;exact gZ
 ·intro A w1 hA hb he;have h13:A.eval (.tmp 13)=.agg #[.bool s2,.slice a2 l2 c2]:=he.1 rfl;have h15:A.eval (.tmp 15)=.agg #[.bool s3,.slice a3 l3 c3]:=he.2.1 rfl;have jx:=i2.on hb;obtain⟨_,_,_,ex,-⟩:=jx.shape;cases ex;have jy:=i3.on hb;obtain⟨_,_,_,ey,-⟩:=jy.shape;cases ey;exact kZ jx jy (by generalize A.eval=ev at *;go_simp)
 ·intro A w1 hA hb he;have f16:((.ints2 ((p.den:Int)) (q.num):bU)).p (A.eval (.tmp 16)) w1:=he.1 rfl;obtain⟨v16,h16⟩:∃ v,A.eval (.tmp 16)=v:=⟨_,rfl⟩;rw [h16] at f16;have hf0:=eF A 84;refine cO (f:=84) (args:=#[v16]) ?_ ?_
  ·exact gZ
  ·refine (mq _ _ _ _ f16 k1.den k2.num).mono ?_;rintro e w' ⟨neg,m,rfl,hi,hb⟩;exact⟨_,rfl,hb,neg,m,rfl,hi⟩
 ·intro A w1 hA hb he;have f11:((.int ((p.num*(q.den:Int))):bU)).p (A.eval (.tmp 11)) w1:=he.1 rfl;obtain⟨v11,h11⟩:∃ v,A.eval (.tmp 11)=v:=⟨_,rfl⟩;rw [h11] at f11;have f17:((.int (((p.den:Int)*q.num)):bU)).p (A.eval (.tmp 17)) w1:=he.2.1 rfl;obtain⟨v17,h17⟩:∃ v,A.eval (.tmp 17)=v:=⟨_,rfl⟩;rw [h17] at f17;have hf0:=eF A 83;refine cO (f:=83) (args:=#[v11,v17]) ?_ ?_
  ·exact gZ
  ·obtain⟨n11,m11,rfl,i11⟩:=f11;obtain⟨n17,m17,rfl,i17⟩:=f17;refine (Su _ _ _ _ _ _ _ i11 i17 cb cb' dz).mono ?_;rintro e w' ⟨x,rfl,hi,hb'⟩;exact⟨_,rfl,hb',x,rfl,hi⟩
 ·intro A w1 hA hb he;have f18:((.ratE (Rat.divInt (p.num*(q.den:Int)) ((p.den:Int)*q.num)) 0:bU)).p (A.eval (.tmp 18)) w1:=he.1 rfl;obtain⟨v18,h18⟩:∃ v,A.eval (.tmp 18)=v:=⟨_,rfl⟩;rw [h18] at f18;obtain⟨x,rfl,hx⟩:=f18;refine aK (c:=x) hx ?_;exact gZ
 ·intro A w1 hA hb he;have f18:((.ratE (Rat.divInt (p.num*(q.den:Int)) ((p.den:Int)*q.num)) 0:bU)).p (A.eval (.tmp 18)) w1:=he.1 rfl;obtain⟨v18,h18⟩:∃ v,A.eval (.tmp 18)=v:=⟨_,rfl⟩;rw [h18] at f18;obtain⟨x,rfl,hx⟩:=f18;refine aK (c:=.int .i64 0) rfl ?_;exact gZ
 ·intro w1 hb;simp only [ou,bU.eq,bU.u32,bU.int,bU.ints2,bU.rat,bU.ratE,bU.of,lZ];rintro _ - _ - _ - _ - _ - _ ⟨t1,b1,g1,d1,t2,b2,g2,d2,rfl,j1,j2⟩;go_frame;refine aA rfl _ (.tmp 4) (.tmp 19) rfl _ _ _ _ rfl rfl (B3.on hb) rfl dL dQ ?_;intro w2 R gr;have hC:=B3.on hb;have hbb:=hb0.trans (hb.mono hb0.size);go_wp2;refine bodyPost_ret (qh rfl _ _ _ Tryz.underlying41 rfl rfl R dL) rfl ⟨_,rfl,bV.stored ⟨t1,b1,g1,d1,t2,b2,g2,d2,rfl,j1,j2⟩ gr hC (by decide),hbb.trans ((aM gr (Nat.le_of_lt hC.lt) (Nat.le_refl _)).mono (by omega))⟩
end Go.Proofs.YtopclbeomcggiaaGreat
end
section
namespace Q
open Go Go.RowKit Go.Proofs.YtopclbeomcggiaaGreat
def Gj:El Int where
 T:=uT
 sz:=1
 pos:=by decide
 E _ cs x:=cs=[.int .u32 x]/\0<=x/\x<bL
 len:=by rintro w c t ⟨rfl,-⟩;rfl
 one:=by
  rintro w c t ⟨rfl,-⟩ v hv;simp only [List.mem_cons,List.not_mem_nil,or_false] at hv;subst hv;rfl
 on:=fun h _=>h
 ok _:=True
 lr:=fun h _ _=>h
 self:=trivial
theorem zJ {w:World}:∀ {l:List Int} {xs:List Value},dS Gj.E w xs l↔xs=uc l/\aH l
 | [],xs=>by
  constructor
  ·intro h;exact⟨h,aH.nil⟩
  ·rintro⟨h,-⟩;exact h
 | x::l,xs=>by
  constructor
  ·rintro⟨c,r,rfl,⟨rfl,h1,h2⟩,h⟩;obtain⟨rfl,h3⟩:=zJ.1 h;exact⟨rfl,h3.cons ⟨h1,h2⟩⟩
  ·rintro⟨rfl,h⟩;exact⟨_,_,rfl,⟨rfl,h x (by simp)⟩,zJ.2 ⟨rfl,fun y hy=>h y (by simp [hy])⟩⟩
theorem uS {w:World} {v:Value} {l:List Int}:bS Gj w v l↔dH w v l:=by
 constructor
 ·rintro⟨ao,cap,xs,rfl,h1,h2,h3⟩;obtain⟨rfl,hl⟩:=zJ.1 h3;exact⟨ao,cap,rfl,h1,hl,h2⟩
 ·rintro⟨ao,cap,rfl,h1,h2,h3⟩;exact⟨ao,cap,uc l,rfl,h1,h3,zJ.2 ⟨rfl,h2⟩⟩
theorem cZ {α:Type} {e:El α} {P:Program} {w:World} {ops:Array Oper} {rest:List Oper} {o:Oper} {a:Act} {Q:Exit->Act->World->Prop} (hgd:o.guard=none) (s x:Operand) (t:TypeId)
  (ho:o.op=.call { callee:=.builtin .append,args:=#[s,x],argTypes:=#[t,t] }) (ht:P.underlying t=some (.slice e.T)) (hi:∃ z bytes,(P.info? e.T).map (fun i=>(i.zero,i.size,i.bytes))=some (some z,e.sz,bytes)/\z.cells.size=e.sz/\bytes<=100000)
  {base:Nat} {l r:List α} {v u:Value} (hs:a.eval s=v) (hx:a.eval x=u) (hown:cB e base w v l) (hu:bS e w u r) (hlen:l.length+r.length<=1000000000) (hbase:base<=w.heap.size)
  (h:∀ v' w',cB e base w' v' (l++r)->Lr v.ownBlock e.T w w'->(v'.ownBlock=v.ownBlock\/v'.ownBlock=some w.heap.size)->wpList P ops Q rest (a.put o.dst v') w'):wpList P ops Q (o::rest) a w:=by
 refine wpList_plain hgd fun K hK=>?_;obtain⟨z,bytes,hi,hz,hby⟩:=hi;obtain⟨v',w',hrun,h2,h3,h4⟩:=pX (ty:=o.type) ht hi hz hown hu hlen hby hbase;unfold Oper.wp;rw [qg ho (by rw [hs,hx];exact hrun)];exact hK _ _ (h v' w' h2 h3 h4)
theorem fV {α:Type} (e:El α) (w:World):cB e w.heap.size (w.alloc (.cells #[] e.T)) (.slice (some ⟨w.heap.size,0,none⟩) 0 0) [] :=
 ⟨[],World.ownsRow_lit w #[] 0 (Nat.le_refl _) (by unfold maxLen;omega) (by simp),rfl⟩
theorem Nw {α:Type} (e:El α) {w:World} {base:Nat} (h:base<=w.heap.size):cB e base (w.alloc (.cells #[] e.T)) (.slice (some ⟨w.heap.size,0,none⟩) 0 0) [] :=
 ⟨[],World.ownsRow_lit w #[] 0 h (by unfold maxLen;omega) (by simp),rfl⟩
theorem dH.newOne (w:World) {x:Int} (h:0<=x/\x<bL):dH (w.alloc (.cells #[.int .u32 x] uT)) (.slice (some ⟨w.heap.size,0,none⟩) 1 1) [x] :=
 (Blk.new w uT (uc [x])).u32s (aH.nil.cons h)
def CS:Nat:=16777216
theorem aZ.openS {w:World} {neg:Bool} {m:Value} {z:Int} (h:aZ w neg m z) (hz:aI z.natAbs<=CS) :
  ∃ l ao cap,m=.slice ao l.length cap/\l.length<=cap/\l.length<=524288/\dH w m l/\aH l/\At uT w ao (uc l)/\iU l/\(neg=true->0<l.length)/\z=fZ neg (ah l):=by
 obtain⟨l,⟨ao,cap,h1,h2,h3,h4⟩,h5,h6,h7⟩:=h;refine⟨l,ao,cap,h1,h2,?_,⟨ao,cap,h1,h2,h3,h4⟩,h3,h4,h5,h6,h7⟩;exact aZ.len h5 h3 (by rw [h7,dZ] at hz;unfold CS at hz;omega)
end Q
namespace Go.Proofs.YtopclbeomcggiaaGreat
open Q
theorem kR:∃ z bytes,(Tryz.prog.info? Gj.T).map (fun i=>(i.zero,i.size,i.bytes))=some (some z,Gj.sz,bytes)/\z.cells.size=Gj.sz/\bytes<=100000:=⟨.int .u32 0,4,bM,rfl,by decide⟩
end Go.Proofs.YtopclbeomcggiaaGreat
end
section
namespace Go.Proofs.YtopclbeomcggiaaGreat
open Go.RowKit Q
theorem DN {l:List Int} {k:Nat} {v:Value} {neg:Bool} {neg':Bool} {w w':World} (HN:Hid (iU (l.take k))) (hz:Hid (vK l k)) (hk:k<=l.length) (hp:neg'=true->0<k)
  (hm:dH w' v (l.take k)) (hb:Below w.heap.size w w') (hneg:fZ neg (ah l)=fZ neg' (ah l)) :
  lI w (fZ neg (ah l)) (.returned (.agg #[.bool neg',v])) w' :=
 ⟨_,_,rfl,⟨l.take k,hm,HN.out,fun h=>by rw [List.length_take,Nat.min_eq_left hk];exact hp h,by rw [hz.out.val];exact hneg⟩,hb⟩
theorem ku (neg:Bool) (v:Value) (l:List Int) (w:World) (h:dH w v l) (hn:l.length<=100000000) :
  Calls Tryz.prog 103 #[v,.bool neg] w (lI w (fZ neg (ah l))):=by
 obtain⟨ao,cap,rfl,hcap,L,hm⟩:=h
 go_enter Tryz.func103,Tryz.ntmps103
 go_upto_region 1 with (fail)
 refine jI fun W hb0 B hsz=>?_;go_wp2
 go_loop [5] (fun i=>∃ k:Nat,k<=l.length/\i=.int .i64 k/\Hid (vK l k)) (fun i=>(intOf i).toNat)
 case atStart=>exact⟨l.length,Nat.le_refl _,rfl,zH (fun j h1 h2=>absurd h1 (by omega))⟩
 case round =>
  obtain⟨k,hk,rfl,hz⟩:=hrel
  have htail:∀ neg':Bool,(neg'=true->0<k)->Hid (iU (l.take k))->fZ neg (ah l)=fZ neg' (ah l)->∀ v w2,cB Gj W.heap.size w2 v (([]:List Int)++l.take k)->Lr (some W.heap.size) uT (W.alloc (.cells #[] uT)) w2->Blk w2 w.heap.size 39 [.bool false,.slice none 0 0]/\dH w2 v (l.take k)/\Below w.heap.size w w2:=by
   intro neg' hp HN hs v w2 hown hl;have hbe:Below W.heap.size W (W.alloc (.cells #[] uT)):=(Below.refl _ _).alloc (Nat.le_refl _) _;have hb2:=hbe.trans (hl.belowAt hbe.size (fun k hk=>by cases hk;exact Nat.le_refl _));exact⟨B.on hb2,uS.1 (by simpa using hown.isSl),hb0.trans (hb2.mono hb0.size)⟩
  by_cases h0:0<k
  ·obtain⟨b,off,rfl,hc⟩:=(hm.on hb0) (by rw [eQ];omega);have hidx:=Dn (P:=Tryz.prog) Tryz.underlying37 (by kernel_rfl:(Tryz.prog.info? 104).map (·.size)=some 1) W b off l.length cap (k - 1) .i64 ((k:Int) - 1) (by omega) (by omega);rw [Nat.mul_one] at hidx;have hcell:W.cell? ⟨b,off+(k-1),none⟩=some (.int .u32 (l.getD (k-1) 0)):=hc.ucell _ (by omega);by_cases hx:l.getD (k - 1) 0=0
   ·have HZ:Hid (vK l (k-1)):=fun j h1 h2=>by
     rcases Nat.eq_or_lt_of_le h1 with h|h
     ·rw [<- h];exact hx
     ·exact hz.out j (by omega) h2
    rw [hx] at hcell;clear hx hz htail;go_wp2;go_round
    case rel=>exact⟨k-1,by omega,by go_num,HZ⟩
    case measure=>simp [intOf];omega
   ·have HN:=zH (tY hk (fun _=>hx));generalize l.getD (k-1) 0=x at *;have hxb:(x == 0)=false:=by simpa using hx
    have hdz:decide (0<(k:Int))=true:=by simp;omega
    have hsl:=bS.take (uS.2 (show dH (W.alloc (.cells #[] uT)) (.slice (some ⟨b,off,none⟩) l.length cap) l from⟨_,cap,rfl,hcap,L,hm.on (hb0.trans (((Below.refl _ _).alloc (Nat.le_refl _) _).mono hb0.size))⟩)) k hk;have hlk:([]:List Int).length+(l.take k).length<=1000000000:=by simp;omega
    have hsli:=fun W':World=>jL (P:=Tryz.prog) Tryz.underlying37 (by kernel_rfl:(Tryz.prog.info? 104).map (·.size)=some 1) W' (some ⟨b,off,none⟩) l.length cap k .i64 (k:Int) rfl (by omega);clear hx;cases neg
    all_goals
     go_wp2_with (first
      | (at_builtin;refine cZ rfl _ _ 37 rfl Tryz.underlying37 kR rfl rfl (fV Gj W) hsl hlk (by simp) ?_;intro v5 w5 hown5 hl5 hv5;obtain⟨hB5,hU5,hb5⟩:=htail _ (fun _=>h0) HN rfl v5 w5 hown5 hl5;obtain⟨ao5,cp5,rfl,-⟩:=id hU5)
      | (refine aA rfl _ (.tmp 4) (.tmp 30) rfl _ _ _ _ rfl rfl hB5 rfl aR (by have:=hU5.one;simp [Value.oneCell',this]) ?_;intro w6 R6 gr6))
     have hU6:=hU5.stored gr6 hB5 (by decide);rw [List.length_take,Nat.min_eq_left hk] at hU6;exact dM rfl rfl rfl R6 Tryz.underlying39 rfl aR (DN HN hz hk (fun _=>h0) hU6 (hb5.trans (aM gr6 (Nat.le_of_lt hB5.lt) (Nat.le_refl _))) rfl)
  ·have hk0:k=0:=by omega
   have hdz:decide (0<(k:Int))=false:=by simp;omega
   have HN:Hid (iU (l.take k)):=zH (tY hk (fun h=>absurd h (by omega)));have hsl:=bS.take (uS.2 (show dH (W.alloc (.cells #[] uT)) (.slice ao l.length cap) l from⟨ao,cap,rfl,hcap,L,hm.on (hb0.trans (((Below.refl _ _).alloc (Nat.le_refl _) _).mono hb0.size))⟩)) k hk;have hlk:([]:List Int).length+(l.take k).length<=1000000000:=by simp;omega
   have hsli:=fun W':World=>jL (P:=Tryz.prog) Tryz.underlying37 (by kernel_rfl:(Tryz.prog.info? 104).map (·.size)=some 1) W' ao l.length cap k .i64 (k:Int) rfl (by omega);have hnn:fZ neg (ah l)=fZ false (ah l):=xz (by rw [<- hk0];exact hz) _ _;replace hk0:=zH hk0;replace hnn:=zH hnn;cases neg
   all_goals
    go_wp2_with (first
     | (at_builtin;refine cZ rfl _ _ 37 rfl Tryz.underlying37 kR rfl rfl (fV Gj W) hsl hlk (by simp) ?_;intro v5 w5 hown5 hl5 hv5;obtain⟨hB5,hU5,hb5⟩:=htail false (fun h=>by cases h) HN hnn.out v5 w5 hown5 hl5;obtain⟨ao5,cp5,rfl,-⟩:=id hU5)
     | (refine aA rfl _ (.tmp 4) (.tmp 30) rfl _ _ _ _ rfl rfl hB5 rfl aR (by have:=hU5.one;simp [Value.oneCell',this]) ?_;intro w6 R6 gr6))
    have hU6:=hU5.stored gr6 hB5 (by decide);rw [List.length_take,Nat.min_eq_left hk] at hU6;exact dM rfl rfl rfl R6 Tryz.underlying39 rfl aR (DN HN hz hk (fun h=>by cases h) hU6 (hb5.trans (aM gr6 (Nat.le_of_lt hB5.lt) (Nat.le_refl _))) (xz (by rw [<- hk0.out];exact hz) _ _))
theorem Fg (n:Int) (w:World) (h1:-4611686018427387904<=n) (h2:n<=4611686018427387904):Calls Tryz.prog 70 #[.int .i64 n] w (lI w n):=by
 by_cases hn:n<0
 ·have HM:Hid (IntKind.u64.wrap (-IntKind.u64.wrap n)=-n):=by show _=_;rw [IntKind.wrap_u64,IntKind.wrap_u64];omega
  go_enter Tryz.func70,Tryz.ntmps70
  go_wp2_with fail
  refine (ku true _ [_,_] _ (tZ w _ _ _ (by rw [HM.out,aT];omega) (by rw [HM.out,aT];omega)) (by simp)).mono ?_;rintro e W ⟨neg,m,rfl,hi,hb⟩;rw [HM.out,K8,aT] at hi;have B:Blk W w.heap.size 39 [.bool false,.slice none 0 0]:=((Blk.new _ _ _).alloc _).on hb
  have hi':aZ W neg m n:=by
   have:fZ true (-n % 4294967296+4294967296*(-n / 4294967296 % 4294967296))=n:=by simp only [fZ,if_true];omega
   rw [this] at hi;exact hi
  have hb0:Below w.heap.size w W:=(mh _ _ _).trans (hb.mono (by simp;omega));clear hi hb
  go_wp2_with (refine aA rfl _ (.tmp 2) (.tmp 18) rfl _ _ _ _ rfl rfl B rfl aR hi'.ones ?_;intro w2 R gr)
  exact dM rfl rfl rfl R Tryz.underlying39 rfl aR (jE hb0 (Below.refl _ _) (Nat.le_refl _) B hi' gr)
 ·go_enter Tryz.func70,Tryz.ntmps70
  go_wp2_with fail
  refine (ku false _ [_,_] _ (tZ w _ _ _ (by rw [aT];omega) (by rw [aT];omega)) (by simp)).mono ?_;rintro e W ⟨neg,m,rfl,hi,hb⟩;rw [K8,aT] at hi;have B:Blk W w.heap.size 39 [.bool false,.slice none 0 0]:=((Blk.new _ _ _).alloc _).on hb
  have hi':aZ W neg m n:=by
   have:fZ false (n % 4294967296+4294967296*(n / 4294967296))=n:=by simp only [fZ];rw [if_neg (by simp)];omega
   rw [this] at hi;exact hi
  have hb0:Below w.heap.size w W:=(mh _ _ _).trans (hb.mono (by simp;omega));clear hi hb
  go_wp2_with (refine aA rfl _ (.tmp 2) (.tmp 18) rfl _ _ _ _ rfl rfl B rfl aR hi'.ones ?_;intro w2 R gr)
  exact dM rfl rfl rfl R Tryz.underlying39 rfl aR (jE hb0 (Below.refl _ _) (Nat.le_refl _) B hi' gr)
theorem nX (neg:Bool) (m:Value) (z:Int) (w:World) (h:aZ w neg m z):Calls Tryz.prog 100 #[.agg #[.bool neg,m]] w (rO w (.int .i64 (iV z))):=by
 obtain⟨ao,n,cap,rfl,hs⟩:=Ae h;have HS:=zH hs;clear h hs;by_cases h:n=0
 ·subst h
  go_enter Tryz.func100,Tryz.ntmps100
  go_wp2;go_ret;exact⟨by rw [HS.out];rfl,(Below.refl _ _).alloc (Nat.le_refl _) _⟩
 ·have h':((n:Int) == 0)=false:=by simp;omega
  replace h:=zH h;cases neg
  all_goals
   go_enter Tryz.func100,Tryz.ntmps100
   go_wp2;go_ret;exact⟨by rw [HS.out,if_neg h.out];rfl,(Below.refl _ _).alloc (Nat.le_refl _) _⟩
theorem Sv (neg:Bool) (n:Int):fZ (!neg) n=-(fZ neg n):=by cases neg <;> simp [fZ]
theorem vX (neg:Bool) (m:Value) (z:Int) (w:World) (h:aZ w neg m z) (hz:aI z.natAbs<=CS):Calls Tryz.prog 124 #[.agg #[.bool neg,m]] w (lI w (-z)):=by
 obtain⟨l,ao,cap,rfl,hc,hl,hu,L,hm,hn,hp,rfl⟩:=h.openS hz;rw [<- Sv]
 go_enter Tryz.func124,Tryz.ntmps124
 go_upto_region 1 with (fail)
 refine xm fun W hb0 B1 B2 hsz=>?_;have x1:=B1.at1 0 _ rfl;have x2:=B1.at1 1 _ rfl
 go_wp2_with (first
  | (go_at_call 103;refine (ku (!neg) _ l _ (hu.on hb0) (by omega)).mono ?_;rintro e w1 ⟨n1,m1,rfl,hi,hb⟩;have hB:=B2.on hb)
  | (refine aA rfl _ (.tmp 2) (.tmp 8) rfl _ _ _ _ rfl rfl hB rfl aR hi.ones ?_;intro w2 R gr))
 exact dM rfl rfl rfl R Tryz.underlying39 rfl aR (jE hb0 hb (by omega) hB hi gr)
theorem G7 {a b c d:Int} (h:dW a b=dW c d):decide (a<b)=decide (c<d):=by
 unfold dW at h;by_cases h1:a<b <;> by_cases h2:c<d <;> simp [h1,h2] at h ⊢
 ·split at h <;> omega
 ·split at h <;> omega
theorem Ny (p1 o1 p2 o2 c1 c2:Nat) (l1 l2:List Int) (w:World) (b1:l1.length<=137438953472) (hlen:l2.length=l1.length) (L1:aH l1) (L2:aH l2) (hc1:bO uT w p1 o1 (uc l1)) (hc2:bO uT w p2 o2 (uc l2)) :
  Calls Tryz.prog 102 #[.slice (some ⟨p1,o1,none⟩) l1.length c1,.slice (some ⟨p2,o2,none⟩) l2.length c2] w (rO w (.bool (decide (ah l1<ah l2)))):=by
 have HL:=zH hlen;have hz:((l1.length:Int) != l2.length)=false:=by simp;omega
 clear hlen
 go_enter Tryz.func102,Tryz.ntmps102
 go_wp2
 go_loopw [5] (fun i wr=>∃ k:Nat,k<=l1.length/\i=.int .i64 ((k:Int)-1)/\Hid (l1.drop k=l2.drop k)/\Below w.heap.size w wr) (fun i _=>(intOf i+1).toNat)
 case atStart=>exact⟨l1.length,Nat.le_refl _,by go_num,zH (by rw [List.drop_of_length_le (Nat.le_refl _),List.drop_of_length_le (by have:=HL.out;omega)]),Below.refl _ _⟩
 case round =>
  obtain⟨k,hk,rfl,hd,hbr⟩:=hrel;by_cases h0:1<=k
  ·obtain⟨i,rfl⟩:∃ i,k=i+1:=⟨k - 1,by omega⟩;have hl2:i<l2.length:=by have:=HL.out;omega
   have hl1:i<l1.length:=by omega
   have f1:∀ W,Below w.heap.size w W->W.cell? ⟨p1,o1+i,none⟩=some (.int .u32 (l1.getD i 0)):=fun W h=>(hc1.on h).ucell i hl1;have f2:∀ W,Below w.heap.size w W->W.cell? ⟨p2,o2+i,none⟩=some (.int .u32 (l2.getD i 0)):=fun W h=>(hc2.on h).ucell i hl2;have hst:l1.getD i 0=l2.getD i 0->l1.drop i=l2.drop i:=Dy i hd.out HL.out.symm (by omega);have hst':l1.getD i 0≠l2.getD i 0->dW (ah l1) (ah l2)=dW (l1.getD i 0) (l2.getD i 0):=Dx L1 L2 i hd.out HL.out.symm (by omega);clear hd;generalize l1.getD i 0=x at *;generalize l2.getD i 0=y at *;have hi1:(((i+1:Nat):Int)-1)=(i:Int):=by omega
   rw [hi1]
   go_upto_region 6 with (fail)
   refine aF mixed (none) (0) (gp.none) [.eq (.slice (some ⟨p1,o1,none⟩) l1.length c1),.eq (.int .i64 i),.eq (.pointer (some ⟨p1,o1+i*1,none⟩)),.eq (.int .u32 x),.eq (.slice (some ⟨p2,o2,none⟩) l2.length c2),.eq (.int .i64 i),.eq (.pointer (some ⟨p2,o2+i*1,none⟩)),.eq (.int .u32 y),.eq (.bool (x != y))] [23,24,25,26,27,28,29,30,31] rfl rfl rfl rfl ⟨?_,?_,?_,?_,?_,?_,?_,?_,?_,trivial⟩ ?_
   ·exact fun _ _ a _ _ _=>xM rfl (a 0 rfl)
   ·exact fun _ _ a _ _ _=>xM rfl (a 5 rfl)
   ·exact fun _ _ _ _ _ e=>pI rfl Tryz.underlying37 p1 o1 i (hl1) (e.1 rfl) (e.2.1 rfl)
   ·intro A w1 hA hL hS he;have h25:=eT 25 (he.1 rfl);refine ae rfl ?_;have c0:=f1 w1 (hbr.trans (hL.below.mono hbr.size));exact aC rfl rfl gZ
   ·exact fun _ _ a _ _ _=>xM rfl (a 1 rfl)
   ·exact fun _ _ a _ _ _=>xM rfl (a 5 rfl)
   ·exact fun _ _ _ _ _ e=>pI rfl Tryz.underlying37 p2 o2 i (hl2) (e.1 rfl) (e.2.1 rfl)
   ·intro A w1 hA hL hS he;have h29:=eT 29 (he.1 rfl);refine ae rfl ?_;have c0:=f2 w1 (hbr.trans (hL.below.mono hbr.size));exact aC rfl rfl gZ
   ·intro A w1 hA hL hS he;have h26:=eT 26 (he.1 rfl);have h30:=eT 30 (he.2.1 rfl);exact pZ rfl
   ·intro W2 hL2;simp only [aU,af.eq,lZ];go_frame;have hb2:=hbr.trans (hL2.below.mono hbr.size);by_cases hx:x=y
    ·have HD:=zH (hst hx);have hxb:(x != y)=false:=by simp [hx]
     rw [hxb];go_wp2;go_roundw
     case rel=>exact⟨i,by omega,by go_num,HD,hb2⟩
     case measure=>simp [intOf]
    ·have HD:=zH (G7 (hst' hx));have hxb:(x != y)=true:=by simp [hx]
     rw [hxb]
     go_upto_region 7 with (fail)
     refine aF mixed (none) (0) (gp.none) [.eq (.slice (some ⟨p1,o1,none⟩) l1.length c1),.eq (.int .i64 i),.eq (.pointer (some ⟨p1,o1+i*1,none⟩)),.eq (.int .u32 x),.eq (.slice (some ⟨p2,o2,none⟩) l2.length c2),.eq (.int .i64 i),.eq (.pointer (some ⟨p2,o2+i*1,none⟩)),.eq (.int .u32 y),.eq (.bool (decide (x<y)))] [32,33,34,35,36,37,38,39,40] rfl rfl rfl rfl ⟨?_,?_,?_,?_,?_,?_,?_,?_,?_,trivial⟩ ?_
     ·exact fun _ _ a _ _ _=>xM rfl (a 0 rfl)
     ·exact fun _ _ a _ _ _=>xM rfl (a 5 rfl)
     ·exact fun _ _ _ _ _ e=>pI rfl Tryz.underlying37 p1 o1 i (hl1) (e.1 rfl) (e.2.1 rfl)
     ·intro A w1 hA hL hS he;have h34:=eT 34 (he.1 rfl);refine ae rfl ?_;have c0:=f1 w1 (hb2.trans (hL.below.mono hb2.size));exact aC rfl rfl gZ
     ·exact fun _ _ a _ _ _=>xM rfl (a 1 rfl)
     ·exact fun _ _ a _ _ _=>xM rfl (a 5 rfl)
     ·exact fun _ _ _ _ _ e=>pI rfl Tryz.underlying37 p2 o2 i (hl2) (e.1 rfl) (e.2.1 rfl)
     ·intro A w1 hA hL hS he;have h38:=eT 38 (he.1 rfl);refine ae rfl ?_;have c0:=f2 w1 (hb2.trans (hL.below.mono hb2.size));exact aC rfl rfl gZ
     ·intro A w1 hA hL hS he;have h35:=eT 35 (he.1 rfl);have h39:=eT 39 (he.2.1 rfl);exact pZ rfl
     ·intro W3 hL3;simp only [aU,af.eq,lZ];go_frame;go_wp2;go_ret;exact⟨by rw [HD.out] <;> rfl,hb2.trans (hL3.below.mono hb2.size)⟩
  ·obtain rfl:k=0:=by omega
   have HD:Hid (decide (ah l1<ah l2)=false):=zH (by have:=hd.out;simp at this;rw [this];simp);go_wp2;go_ret;exact⟨by rw [HD.out] <;> rfl,hbr⟩
theorem Nz (ao1 ao2:Option Addr) (c1 c2:Nat) (l1 l2:List Int) (w:World) (b1:l1.length<=137438953472) (b2:l2.length<=137438953472) (L1:aH l1) (L2:aH l2) (m1:At uT w ao1 (uc l1)) (m2:At uT w ao2 (uc l2)) (n1:iU l1) (n2:iU l2) :
  Calls Tryz.prog 102 #[.slice ao1 l1.length c1,.slice ao2 l2.length c2] w (rO w (.bool (decide (ah l1<ah l2)))):=by
 by_cases hlen:l1.length=l2.length
 ·by_cases hp:0<l1.length
  ·obtain⟨p1,o1,rfl,hc1⟩:=m1 (by rw [eQ];omega);obtain⟨p2,o2,rfl,hc2⟩:=m2 (by rw [eQ];omega);exact Ny p1 o1 p2 o2 c1 c2 l1 l2 w b1 hlen.symm L1 L2 hc1 hc2
  ·obtain rfl:l1=[]:=List.eq_nil_of_length_eq_zero (by omega);obtain rfl:l2=[]:=List.eq_nil_of_length_eq_zero (by simp at hlen;omega);simp only [List.length_nil]
   go_enter Tryz.func102,Tryz.ntmps102
   go_wp2;refine wp_loop_rounds 1 ?_;rw [rounds_succ];go_wp2;go_ret;exact⟨rfl,Below.refl _ _⟩
 ·have H:Hid (decide (ah l1<ah l2)=decide (l1.length<l2.length)):=zH ((G7 (Gv L1 L2 n1 n2 (by omega))).trans (by simp));have hne:((l1.length:Int) != l2.length)=true:=by simp;omega
  clear hlen
  go_enter Tryz.func102,Tryz.ntmps102
  go_wp2;go_ret;exact⟨by rw [H.out] <;> rfl,Below.refl _ _⟩
theorem A8 (v1 v2:Value) (l1 l2:List Int) (w:World) (h1:dH w v1 l1) (h2:dH w v2 l2) (b1:l1.length<=137438953472) (b2:l2.length<=137438953472) (n1:iU l1) (n2:iU l2) :
  Calls Tryz.prog 102 #[v1,v2] w (rO w (.bool (decide (ah l1<ah l2)))):=by
 obtain⟨ao1,c1,rfl,_,L1,m1⟩:=h1;obtain⟨ao2,c2,rfl,_,L2,m2⟩:=h2;exact Nz ao1 ao2 c1 c2 l1 l2 w b1 b2 L1 L2 m1 m2 n1 n2
theorem Lt {n:Bool} {x y:Int}:fZ n x=fZ n y↔x=y:=by cases n <;> simp [fZ]
theorem DR (n1 n2:Bool) (m1 m2:Value) (z1 z2:Int) (w:World) (h1:aZ w n1 m1 z1) (h2:aZ w n2 m2 z2) (c1:aI z1.natAbs<=iT) (c2:aI z2.natAbs<=iT) :
  Calls Tryz.prog 69 #[.agg #[.bool n1,m1],.agg #[.bool n2,m2]] w (rO w (.bool (decide (z1=z2)))):=by
 obtain⟨l1,ao1,cap1,rfl,u1,b1,nn1,e1⟩:=fU h1 c1;obtain⟨l2,ao2,cap2,rfl,u2,b2,nn2,e2⟩:=fU h2 c2;have HL1:=fun W (hb:Below w.heap.size w W)=>A8 _ _ l1 l2 W (u1.on hb) (u2.on hb) (by omega) (by omega) nn1 nn2;have HL2:=fun W (hb:Below w.heap.size w W)=>A8 _ _ l2 l1 W (u2.on hb) (u1.on hb) (by omega) (by omega) nn2 nn1
 go_enter Tryz.func69,Tryz.ntmps69
 go_upto_region 1 with (fail)
 refine xm fun W hb0 B1 B2 hsz=>?_;by_cases hn:n1=n2
 ·subst hn;by_cases hlt:ah l1<ah l2
  ·have HE:decide (z1=z2)=false:=by rw [decide_eq_false_iff_not,e1,e2,Lt];omega
   clear e1 e2;simp only [hlt,decide_true] at HL1;refine aP trivial (none) (0) (gp.none) [.eq (.pointer (some ⟨w.heap.size,0,none⟩)),.eq (.bool n1),.eq (.pointer (some ⟨w.heap.size+1,0,none⟩)),.eq (.bool n1),.eq (.bool true),.eq (.bool true),.eq (.pointer (some ⟨w.heap.size,1,none⟩)),.eq (.slice ao1 l1.length cap1),.eq (.pointer (some ⟨w.heap.size+1,1,none⟩)),.eq (.slice ao2 l2.length cap2),.ret (.bool true),.eq (.bool false),.eq (.bool false),.eq (.bool false),.eq undef,.eq undef,.eq undef,.eq undef,.eq undef,.eq undef,.eq (.bool false)] [5,6,7,8,9,10,11,12,13,14,15,16,17,18,19,20,21,22,23,24,25] rfl rfl rfl rfl ⟨?_,?_,?_,?_,?_,?_,?_,?_,?_,?_,?_,?_,?_,?_,?_,?_,?_,?_,?_,?_,?_,trivial⟩ ?_
   ·intro A w1 hA hL hS he;have h2:A.eval (.tmp 2)=.pointer (some ⟨w.heap.size,0,none⟩):=hA 2 rfl;exact pZ rfl
   ·intro A w1 hA hL hS he;have hb:=hL.below;have h5:=eT 5 (he.1 rfl);have c0:=((B1).on hb).at1 0 _ rfl;exact pZ rfl
   ·intro A w1 hA hL hS he;have h3:A.eval (.tmp 3)=.pointer (some ⟨w.heap.size+1,0,none⟩):=hA 3 rfl;exact pZ rfl
   ·intro A w1 hA hL hS he;have hb:=hL.below;have h7:=eT 7 (he.1 rfl);have c0:=((B2).on hb).at1 0 _ rfl;exact pZ rfl
   ·intro A w1 hA hL hS he;have h6:=eT 6 (he.1 rfl);have h8:=eT 8 (he.2.1 rfl);exact pZ rfl
   ·exact fun _ _ _ _ _ e=>xM rfl (e.1 rfl)
   ·intro A w1 hA hL hS he;have h10:=eT 10 (he.1 rfl);have h2:A.eval (.tmp 2)=.pointer (some ⟨w.heap.size,0,none⟩):=hA 2 rfl;exact yZ h10 rfl
   ·intro A w1 hA hL hS he;have hb:=hL.below;have h10:=eT 10 (he.2.1 rfl);have h11:=eT 11 (he.1 rfl);have c0:=((B1).on hb).at1 1 _ rfl;exact yZ h10 rfl
   ·intro A w1 hA hL hS he;have h10:=eT 10 (he.1 rfl);have h3:A.eval (.tmp 3)=.pointer (some ⟨w.heap.size+1,0,none⟩):=hA 3 rfl;exact yZ h10 rfl
   ·intro A w1 hA hL hS he;have hb:=hL.below;have h10:=eT 10 (he.2.1 rfl);have h13:=eT 13 (he.1 rfl);have c0:=((B2).on hb).at1 1 _ rfl;exact yZ h10 rfl
   ·intro A w1 hA hL hS he;have hb:=hS rfl;have h10:=eT 10 (he.2.2.1 rfl);have h12:=eT 12 (he.1 rfl);have h14:=eT 14 (he.2.1 rfl);have hf0:=eF A 102;exact cY (f:=102) (args:=#[.slice ao1 l1.length cap1,.slice ao2 l2.length cap2]) h10 (HL1 _ (hb0.trans (hL.below.mono hb0.size)))
   ·intro A w1 hA hL hS he;have h10:=eT 10 (he.2.1 rfl);have h15:=eT 15 (he.1 rfl);exact yZ h10 rfl
   ·exact fun _ _ _ _ _ e=>pK rfl (e.1 rfl) (e.2.1 rfl)
   ·exact fun _ _ _ _ _ e=>xM rfl (e.1 rfl)
   ·exact fun _ _ _ _ _ e=>nO false (e.1 rfl)
   ·exact fun _ _ _ _ _ e=>nO false (e.2.1 rfl)
   ·exact fun _ _ _ _ _ e=>nO false (e.1 rfl)
   ·exact fun _ _ _ _ _ e=>nO false (e.2.1 rfl)
   ·exact fun _ _ _ _ _ e=>nO false (e.2.2.1 rfl)
   ·exact fun _ _ _ _ _ e=>nO false (e.2.1 rfl)
   ·exact fun _ _ _ _ _ e=>ae rfl (iM rfl (e.1 rfl) rfl rfl)
   ·intro W2 hL2;simp only [aU,af.eq,af.ret,lZ];go_frame;go_wp2;go_ret;exact⟨by first|rfl|(rw [HE] <;> rfl)|(simp [HE]),hb0.trans (hL2.below.mono hb0.size)⟩
  ·simp only [hlt,decide_false] at HL1
   have HE:decide (z1=z2)=!(decide (ah l2<ah l1)):=by
    rw [Bool.eq_iff_iff];simp only [decide_eq_true_eq,Bool.not_eq_true',decide_eq_false_iff_not,e1,e2,Lt];omega
   clear e1 e2;refine aP trivial (none) (0) (gp.none) [.eq (.pointer (some ⟨w.heap.size,0,none⟩)),.eq (.bool n1),.eq (.pointer (some ⟨w.heap.size+1,0,none⟩)),.eq (.bool n1),.eq (.bool true),.eq (.bool true),.eq (.pointer (some ⟨w.heap.size,1,none⟩)),.eq (.slice ao1 l1.length cap1),.eq (.pointer (some ⟨w.heap.size+1,1,none⟩)),.eq (.slice ao2 l2.length cap2),.ret (.bool false),.eq (.bool true),.eq (.bool true),.eq (.bool true),.eq (.pointer (some ⟨w.heap.size+1,1,none⟩)),.eq (.slice ao2 l2.length cap2),.eq (.pointer (some ⟨w.heap.size,1,none⟩)),.eq (.slice ao1 l1.length cap1),.ret (.bool (decide (ah l2<ah l1))),.eq (.bool (!(decide (ah l2<ah l1)))),.eq (.bool (!(decide (ah l2<ah l1))))] [5,6,7,8,9,10,11,12,13,14,15,16,17,18,19,20,21,22,23,24,25] rfl rfl rfl rfl ⟨?_,?_,?_,?_,?_,?_,?_,?_,?_,?_,?_,?_,?_,?_,?_,?_,?_,?_,?_,?_,?_,trivial⟩ ?_
   ·intro A w1 hA hL hS he;have h2:A.eval (.tmp 2)=.pointer (some ⟨w.heap.size,0,none⟩):=hA 2 rfl;exact pZ rfl
   ·intro A w1 hA hL hS he;have hb:=hL.below;have h5:=eT 5 (he.1 rfl);have c0:=((B1).on hb).at1 0 _ rfl;exact pZ rfl
   ·intro A w1 hA hL hS he;have h3:A.eval (.tmp 3)=.pointer (some ⟨w.heap.size+1,0,none⟩):=hA 3 rfl;exact pZ rfl
   ·intro A w1 hA hL hS he;have hb:=hL.below;have h7:=eT 7 (he.1 rfl);have c0:=((B2).on hb).at1 0 _ rfl;exact pZ rfl
   ·intro A w1 hA hL hS he;have h6:=eT 6 (he.1 rfl);have h8:=eT 8 (he.2.1 rfl);exact pZ rfl
   ·exact fun _ _ _ _ _ e=>xM rfl (e.1 rfl)
   ·intro A w1 hA hL hS he;have h10:=eT 10 (he.1 rfl);have h2:A.eval (.tmp 2)=.pointer (some ⟨w.heap.size,0,none⟩):=hA 2 rfl;exact yZ h10 rfl
   ·intro A w1 hA hL hS he;have hb:=hL.below;have h10:=eT 10 (he.2.1 rfl);have h11:=eT 11 (he.1 rfl);have c0:=((B1).on hb).at1 1 _ rfl;exact yZ h10 rfl
   ·intro A w1 hA hL hS he;have h10:=eT 10 (he.1 rfl);have h3:A.eval (.tmp 3)=.pointer (some ⟨w.heap.size+1,0,none⟩):=hA 3 rfl;exact yZ h10 rfl
   ·intro A w1 hA hL hS he;have hb:=hL.below;have h10:=eT 10 (he.2.1 rfl);have h13:=eT 13 (he.1 rfl);have c0:=((B2).on hb).at1 1 _ rfl;exact yZ h10 rfl
   ·intro A w1 hA hL hS he;have hb:=hS rfl;have h10:=eT 10 (he.2.2.1 rfl);have h12:=eT 12 (he.1 rfl);have h14:=eT 14 (he.2.1 rfl);have hf0:=eF A 102;exact cY (f:=102) (args:=#[.slice ao1 l1.length cap1,.slice ao2 l2.length cap2]) h10 (HL1 _ (hb0.trans (hL.below.mono hb0.size)))
   ·intro A w1 hA hL hS he;have h10:=eT 10 (he.2.1 rfl);have h15:=eT 15 (he.1 rfl);exact yZ h10 rfl
   ·exact fun _ _ _ _ _ e=>pK rfl (e.1 rfl) (e.2.1 rfl)
   ·exact fun _ _ _ _ _ e=>xM rfl (e.1 rfl)
   ·intro A w1 hA hL hS he;have h18:=eT 18 (he.1 rfl);have h3:A.eval (.tmp 3)=.pointer (some ⟨w.heap.size+1,0,none⟩):=hA 3 rfl;exact yZ h18 rfl
   ·intro A w1 hA hL hS he;have hb:=hL.below;have h18:=eT 18 (he.2.1 rfl);have h19:=eT 19 (he.1 rfl);have c0:=((B2).on hb).at1 1 _ rfl;exact yZ h18 rfl
   ·intro A w1 hA hL hS he;have h18:=eT 18 (he.1 rfl);have h2:A.eval (.tmp 2)=.pointer (some ⟨w.heap.size,0,none⟩):=hA 2 rfl;exact yZ h18 rfl
   ·intro A w1 hA hL hS he;have hb:=hL.below;have h18:=eT 18 (he.2.1 rfl);have h21:=eT 21 (he.1 rfl);have c0:=((B1).on hb).at1 1 _ rfl;exact yZ h18 rfl
   ·intro A w1 hA hL hS he;have hb:=hS rfl;have h18:=eT 18 (he.2.2.1 rfl);have h20:=eT 20 (he.1 rfl);have h22:=eT 22 (he.2.1 rfl);have hf0:=eF A 102;exact cY (f:=102) (args:=#[.slice ao2 l2.length cap2,.slice ao1 l1.length cap1]) h18 (HL2 _ (hb0.trans (hL.below.mono hb0.size)))
   ·intro A w1 hA hL hS he;have h18:=eT 18 (he.2.1 rfl);have h23:=eT 23 (he.1 rfl);exact yZ h18 rfl
   ·exact fun _ _ _ _ _ e=>pK rfl (e.1 rfl) (e.2.1 rfl)
   ·intro W2 hL2;simp only [aU,af.eq,af.ret,lZ];go_frame;go_wp2;go_ret;exact⟨by first|rfl|(rw [HE] <;> rfl)|(simp [HE]),hb0.trans (hL2.below.mono hb0.size)⟩
 ·have HE:decide (z1=z2)=false:=by
   rw [decide_eq_false_iff_not];intro hz;cases n1 <;> cases n2 <;> first|exact hn rfl|skip
   ·have:=nD h1;have:=lK h2;omega
   ·have:=lK h1;have:=nD h2;omega
  clear e1 e2;have hnb:(n1 == n2)=false:=by simpa using hn
  ·skip
   refine aP trivial (none) (0) (gp.none) [.eq (.pointer (some ⟨w.heap.size,0,none⟩)),.eq (.bool n1),.eq (.pointer (some ⟨w.heap.size+1,0,none⟩)),.eq (.bool n2),.eq (.bool false),.eq (.bool false),.eq undef,.eq undef,.eq undef,.eq undef,.eq undef,.eq undef,.eq (.bool false),.eq (.bool false),.eq undef,.eq undef,.eq undef,.eq undef,.eq undef,.eq undef,.eq (.bool false)] [5,6,7,8,9,10,11,12,13,14,15,16,17,18,19,20,21,22,23,24,25] rfl rfl rfl rfl ⟨?_,?_,?_,?_,?_,?_,?_,?_,?_,?_,?_,?_,?_,?_,?_,?_,?_,?_,?_,?_,?_,trivial⟩ ?_
   ·intro A w1 hA hL hS he;have h2:A.eval (.tmp 2)=.pointer (some ⟨w.heap.size,0,none⟩):=hA 2 rfl;exact pZ rfl
   ·intro A w1 hA hL hS he;have hb:=hL.below;have h5:=eT 5 (he.1 rfl);have c0:=((B1).on hb).at1 0 _ rfl;exact pZ rfl
   ·intro A w1 hA hL hS he;have h3:A.eval (.tmp 3)=.pointer (some ⟨w.heap.size+1,0,none⟩):=hA 3 rfl;exact pZ rfl
   ·intro A w1 hA hL hS he;have hb:=hL.below;have h7:=eT 7 (he.1 rfl);have c0:=((B2).on hb).at1 0 _ rfl;exact pZ rfl
   ·intro A w1 hA hL hS he;have h6:=eT 6 (he.1 rfl);have h8:=eT 8 (he.2.1 rfl);exact pZ rfl
   ·exact fun _ _ _ _ _ e=>xM rfl (e.1 rfl)
   ·exact fun _ _ _ _ _ e=>nO false (e.1 rfl)
   ·exact fun _ _ _ _ _ e=>nO false (e.2.1 rfl)
   ·exact fun _ _ _ _ _ e=>nO false (e.1 rfl)
   ·exact fun _ _ _ _ _ e=>nO false (e.2.1 rfl)
   ·exact fun _ _ _ _ _ e=>nO false (e.2.2.1 rfl)
   ·exact fun _ _ _ _ _ e=>nO false (e.2.1 rfl)
   ·exact fun _ _ _ _ _ e=>ae rfl (iM rfl (e.1 rfl) rfl rfl)
   ·exact fun _ _ _ _ _ e=>xM rfl (e.1 rfl)
   ·exact fun _ _ _ _ _ e=>nO false (e.1 rfl)
   ·exact fun _ _ _ _ _ e=>nO false (e.2.1 rfl)
   ·exact fun _ _ _ _ _ e=>nO false (e.1 rfl)
   ·exact fun _ _ _ _ _ e=>nO false (e.2.1 rfl)
   ·exact fun _ _ _ _ _ e=>nO false (e.2.2.1 rfl)
   ·exact fun _ _ _ _ _ e=>nO false (e.2.1 rfl)
   ·exact fun _ _ _ _ _ e=>ae rfl (iM rfl (e.1 rfl) rfl rfl)
   ·intro W2 hL2;simp only [aU,af.eq,af.ret,lZ];go_frame;go_wp2;go_ret;exact⟨by first|rfl|(rw [HE] <;> rfl)|(simp [HE]),hb0.trans (hL2.below.mono hb0.size)⟩
def vY (l1 l2:List Int) (i:Nat) (xs:List Int) (c:Int):Prop :=
 xs.length=i/\aH xs/\0<=c/\c<=1/\i<=max l1.length l2.length+1/\(i=max l1.length l2.length+1->c=0)/\ah xs+bL ^ i*c=ah (l1.take i)+ah (l2.take i)
theorem vY.start (l1 l2:List Int):vY l1 l2 0 [] 0:=⟨rfl,aH.nil,by omega,by omega,by omega,by omega,by simp [ah]⟩
theorem G9 (x:Int):0<=x % 4294967296/\x % 4294967296<bL:=by rw [aT];omega
theorem vY.step {l1 l2:List Int} {i:Nat} {xs:List Int} {c:Int} (h:vY l1 l2 i xs c) (L1:aH l1) (L2:aH l2) (hi:i<l1.length\/i<l2.length\/0<c) :
  vY l1 l2 (i+1) (xs++[(c+l1.getD i 0+l2.getD i 0) % 4294967296]) ((c+l1.getD i 0+l2.getD i 0) / 4294967296):=by
 obtain⟨h1,h2,h3,h4,h5,h6,h7⟩:=h;have a1:=L1.getD i;have a2:=L2.getD i;rw [aT] at a1 a2;have p1:=jX l1 i;have p2:=jX l2 i
 have nz:i<=max l1.length l2.length:=by
  rcases Nat.lt_or_ge (max l1.length l2.length) i with h|h
  ·have:=h6 (by omega);omega
  ·exact h
 refine⟨by simp [h1],h2.append (aH.nil.cons (G9 _)),by omega,by omega,by omega,fun he=>?_,?_⟩
 ·have:=p1 (by omega);have:=p2 (by omega);omega
 ·rw [ik,aL,aL,h1];simp only [ah,Int.mul_zero,Int.add_zero];have e:=Int.mul_ediv_add_emod (c+l1.getD i 0+l2.getD i 0) 4294967296;generalize (c+l1.getD i 0+l2.getD i 0) % 4294967296=r at *;generalize (c+l1.getD i 0+l2.getD i 0) / 4294967296=q at *;rw [Int.pow_succ];have:bL ^ i*(c+l1.getD i 0+l2.getD i 0)=bL ^ i*(bL*q+r):=by rw [aT,e]
  generalize bL ^ i=P at *;grind
theorem vY.done {l1 l2:List Int} {i:Nat} {xs:List Int} (h:vY l1 l2 i xs 0) (h1:¬ i<l1.length) (h2:¬ i<l2.length):ah xs=ah l1+ah l2/\xs.length<=max l1.length l2.length+1:=by
 obtain⟨e1,_,_,_,e5,_,e7⟩:=h;rw [List.take_of_length_le (by omega),List.take_of_length_le (by omega)] at e7;exact⟨by simpa using e7,by omega⟩
theorem NA (v1 v2:Value) (l1 l2:List Int) (w:World) (h1:dH w v1 l1) (h2:dH w v2 l2) (b1:l1.length<=10000000) (b2:l2.length<=10000000) :
  Calls Tryz.prog 125 #[v1,v2] w (Jp w fun l=>ah l=ah l1+ah l2/\l.length<=max l1.length l2.length+1):=by
 obtain⟨ao1,cap1,rfl,hc1,L1,m1⟩:=h1;obtain⟨ao2,cap2,rfl,hc2,L2,m2⟩:=h2
 go_enter Tryz.func125,Tryz.ntmps125
 go_wp2;have hown0:=fV Gj w;have hb0:Below w.heap.size w (w.alloc (.cells #[] uT)):=(Below.refl _ _).alloc (Nat.le_refl _) _;change cB Gj w.heap.size (w.alloc (.cells #[] uT)) _ _ at hown0
 go_loopw [5,6,7] (fun o c i wr=>∃ (k:Nat) (xs:List Int) (q:Int),i=.int .i64 k/\c=.int .u64 q/\Hid (vY l1 l2 k xs q)/\Hid (cB Gj w.heap.size wr o xs)/\Below w.heap.size w wr) (fun _ _ i _=>max l1.length l2.length+1-(intOf i).toNat)
 case atStart=>exact⟨0,[],0,rfl,rfl,zH (vY.start l1 l2),zH hown0,hb0⟩
 case round =>
  clear hown0 hb0;obtain⟨k,xs,q,rfl,rfl,hinv,hown,hb⟩:=hrel;have q0:=hinv.out.2.2.1;have q1:=hinv.out.2.2.2.1;have hkm:=hinv.out.2.2.2.2.1;have hxl:=hinv.out.1;have hlx:xs.length+([0]:List Int).length<=1000000000:=by simp;omega
  have dG:=hinv.out.step L1 L2;have hdone:=hinv.out.2.2.2.2.2.1;have p1:=jX l1 k;have p2:=jX l2 k;have a1:=(L1.getD k).1;have a1':l1.getD k 0<4294967296:=(L1.getD k).2;have a2:=(L2.getD k).1;have a2':l2.getD k 0<4294967296:=(L2.getD k).2
  have hc1:k<l1.length->∃ b o,Hid (ao1=some ⟨b,o,none⟩)/\wr.cell? ⟨b,o+k,none⟩=some (.int .u32 (l1.getD k 0)):=fun h=>by
   obtain⟨b,o,e,hc⟩:=m1 (by rw [eQ];omega);exact⟨b,o,zH e,(hc.on hb).ucell k h⟩
  have hc2:k<l2.length->∃ b o,Hid (ao2=some ⟨b,o,none⟩)/\wr.cell? ⟨b,o+k,none⟩=some (.int .u32 (l2.getD k 0)):=fun h=>by
   obtain⟨b,o,e,hc⟩:=m2 (by rw [eQ];omega);exact⟨b,o,zH e,(hc.on hb).ucell k h⟩
  generalize l1.getD k 0=x at *;generalize l2.getD k 0=y at *;have hmk:k<=10000001:=by omega
  replace hkm:=zH hkm;replace hdone:=zH hdone;replace hxl:=zH hxl;have hbe:=hown.out.base_le
  have happ:∀ z:Int,0<=z->cB Gj w.heap.size (wr.alloc (.cells #[.int .u32 (z % 4294967296)] uT)) u5 xs/\bS Gj (wr.alloc (.cells #[.int .u32 (z % 4294967296)] uT)) (.slice (some ⟨wr.heap.size,0,none⟩) 1 1) [z % 4294967296]/\w.heap.size<=(wr.alloc (.cells #[.int .u32 (z % 4294967296)] uT)).heap.size /\
    ∀ w5,Lr u5.ownBlock uT (wr.alloc (.cells #[.int .u32 (z % 4294967296)] uT)) w5->Below w.heap.size w w5:=fun z _=>by
   have hba:Below wr.heap.size wr (wr.alloc (.cells #[.int .u32 (z % 4294967296)] uT)):=(Below.refl _ _).alloc (Nat.le_refl _) _;have hbw:=hb.trans (hba.mono hb.size);exact⟨hown.out.on hba,uS.2 (dH.newOne wr (G9 z)),hbw.size,fun w5 hl=>hbw.trans (hl.belowAt hbw.size (fun k hk=>(hbe k hk).1))⟩
  by_cases h1:k<l1.length
  ·obtain⟨b1',o1,E1,hcell1⟩:=hc1 h1;replace dG:=zH (dG (.inl h1));clear p1;by_cases h2:k<l2.length
   ·obtain⟨b2',o2,E2,hcell2⟩:=hc2 h2;clear p2 hc1 hc2;obtain⟨s1,s2,s3,s4⟩:=happ (q+x+y) (by omega);clear happ
    go_wp2_with (first
     | (refine aj rfl (.tmp 30) (.tmp 31) _ rfl _ Tryz.underlying37 _ _ _ bM _ _ _ rfl _ _ rfl k rfl h1 b1' o1 E1.out ?_;rw [Nat.mul_one])
     | (refine aj rfl (.tmp 41) (.tmp 42) _ rfl _ Tryz.underlying37 _ _ _ bM _ _ _ rfl _ _ rfl k rfl h2 b2' o2 E2.out ?_;rw [Nat.mul_one])
     | (at_builtin;refine cZ rfl _ _ 37 rfl Tryz.underlying37 kR rfl rfl s1 s2 hlx s3 ?_;intro v5 w5 hown5 hl5 hv5;replace s4:=s4 w5 hl5))
    go_roundw
    case rel=>exact⟨k+1,_,_,by go_num,rfl,dG,zH hown5,s4⟩
    case measure=>have:=hkm.out;simp [intOf];omega
   ·obtain rfl:=p2 h2;clear p2 hc1 hc2;obtain⟨s1,s2,s3,s4⟩:=happ (q+x) (by omega);rw [Int.add_zero] at dG;clear happ
    go_wp2_with (first
     | (refine aj rfl (.tmp 30) (.tmp 31) _ rfl _ Tryz.underlying37 _ _ _ bM _ _ _ rfl _ _ rfl k rfl h1 b1' o1 E1.out ?_;rw [Nat.mul_one])
     | (at_builtin;refine cZ rfl _ _ 37 rfl Tryz.underlying37 kR rfl rfl s1 s2 hlx s3 ?_;intro v5 w5 hown5 hl5 hv5;replace s4:=s4 w5 hl5))
    go_roundw
    case rel=>exact⟨k+1,_,_,by go_num,rfl,dG,zH hown5,s4⟩
    case measure=>have:=hkm.out;simp [intOf];omega
  ·obtain rfl:=p1 h1;clear p1 hc1;by_cases h2:k<l2.length
   ·obtain⟨b2',o2,E2,hcell2⟩:=hc2 h2;replace dG:=zH (dG (.inr (.inl h2)));rw [Int.add_zero] at dG;clear p2 hc2;obtain⟨s1,s2,s3,s4⟩:=happ (q+y) (by omega);clear happ
    go_wp2_with (first
     | (refine aj rfl (.tmp 41) (.tmp 42) _ rfl _ Tryz.underlying37 _ _ _ bM _ _ _ rfl _ _ rfl k rfl h2 b2' o2 E2.out ?_;rw [Nat.mul_one])
     | (at_builtin;refine cZ rfl _ _ 37 rfl Tryz.underlying37 kR rfl rfl s1 s2 hlx s3 ?_;intro v5 w5 hown5 hl5 hv5;replace s4:=s4 w5 hl5))
    go_roundw
    case rel=>exact⟨k+1,_,_,by go_num,rfl,dG,zH hown5,s4⟩
    case measure=>have:=hkm.out;simp [intOf];omega
   ·obtain rfl:=p2 h2;clear p2 hc2;by_cases h3:0<q
    ·replace dG:=zH (dG (.inr (.inr h3)));rw [Int.add_zero,Int.add_zero] at dG;obtain⟨s1,s2,s3,s4⟩:=happ q q0;rw [Int.emod_eq_of_lt q0 (show q<4294967296 by omega)] at s1 s2 s3 s4 dG
     have hk1:k<=max l1.length l2.length:=by
      have:=hkm.out;rcases Nat.lt_or_ge (max l1.length l2.length) k with h|h
      ·have:=hdone.out (by omega);omega
      ·exact h
     replace hk1:=zH hk1;clear happ
     go_wp2_with (first
      | (at_builtin;refine cZ rfl _ _ 37 rfl Tryz.underlying37 kR rfl rfl s1 s2 hlx s3 ?_;intro v5 w5 hown5 hl5 hv5;replace s4:=s4 w5 hl5))
     go_roundw
     case rel=>exact⟨k+1,_,_,by go_num,rfl,dG,zH hown5,s4⟩
     case measure=>have:=hk1.out;simp [intOf];omega
    ·obtain rfl:q=0:=by omega
     have hd:=zH (hinv.out.done h1 h2);clear dG happ;go_wp2;go_ret;exact⟨_,xs,rfl,uS.1 hown.out.isSl,hd.out,hb⟩
def qi (l1 l2:List Int) (i:Nat) (xs:List Int) (c:Int):Prop :=
 xs.length=i/\aH xs/\0<=c/\c<=1/\i<=l1.length/\ah xs+ah (l2.take i)=ah (l1.take i)+bL ^ i*c
theorem qi.start (l1 l2:List Int):qi l1 l2 0 [] 0:=⟨rfl,aH.nil,by omega,by omega,by omega,by simp [ah]⟩
theorem qi.step {l1 l2:List Int} {i:Nat} {xs:List Int} {c:Int} (h:qi l1 l2 i xs c) (L1:aH l1) (L2:aH l2) (hi:i<l1.length) :
  (l1.getD i 0-c-l2.getD i 0<0->qi l1 l2 (i+1) (xs++[l1.getD i 0-c-l2.getD i 0+4294967296]) 1)/\(¬ l1.getD i 0-c-l2.getD i 0<0->qi l1 l2 (i+1) (xs++[l1.getD i 0-c-l2.getD i 0]) 0):=by
 obtain⟨h1,h2,h3,h4,h5,h7⟩:=h;have a1:=L1.getD i;have a2:=L2.getD i;rw [aT] at a1 a2;constructor
 ·intro hd;refine⟨by simp [h1],h2.append (aH.nil.cons (by rw [aT];omega)),by omega,by omega,by omega,?_⟩;rw [ik,aL,aL,h1,Int.pow_succ];simp only [ah,Int.mul_zero,Int.add_zero];rw [<- aT];generalize bL ^ i=P at *;grind
 ·intro hd;refine⟨by simp [h1],h2.append (aH.nil.cons (by rw [aT];omega)),by omega,by omega,by omega,?_⟩;rw [ik,aL,aL,h1,Int.pow_succ];simp only [ah,Int.mul_zero,Int.add_zero];generalize bL ^ i=P at *;grind
theorem qi.done {l1 l2:List Int} {xs:List Int} {c:Int} (h:qi l1 l2 l1.length xs c) (h2:l2.length<=l1.length) (nz:ah l2<=ah l1):ah xs=ah l1-ah l2/\xs.length=l1.length:=by
 obtain⟨e1,e2,e3,e4,e5,e7⟩:=h;rw [List.take_of_length_le (by omega),List.take_of_length_le (by omega)] at e7;have:=il e2;rw [e1] at this;have hc:c=0\/c=1:=by omega
 rcases hc with rfl|rfl
 ·exact⟨by omega,e1⟩
 ·rw [Int.mul_one] at e7;omega
theorem A9 (v1 v2:Value) (l1 l2:List Int) (w:World) (h1:dH w v1 l1) (h2:dH w v2 l2) (b1:l1.length<=10000000) (hlen:l2.length<=l1.length) (nz:ah l2<=ah l1) :
  Calls Tryz.prog 126 #[v1,v2] w (Jp w fun l=>ah l=ah l1-ah l2/\l.length=l1.length):=by
 obtain⟨ao1,cap1,rfl,hc1,L1,m1⟩:=h1;obtain⟨ao2,cap2,rfl,hc2,L2,m2⟩:=h2
 go_enter Tryz.func126,Tryz.ntmps126
 go_wp2;have hown0:=fV Gj w;have hb0:Below w.heap.size w (w.alloc (.cells #[] uT)):=(Below.refl _ _).alloc (Nat.le_refl _) _;change cB Gj w.heap.size (w.alloc (.cells #[] uT)) _ _ at hown0
 go_loopw [5,6,7] (fun o c i wr=>∃ (k:Nat) (xs:List Int) (q:Int),i=.int .i64 k/\c=.int .i64 q/\Hid (qi l1 l2 k xs q)/\Hid (cB Gj w.heap.size wr o xs)/\Below w.heap.size w wr) (fun _ _ i _=>l1.length-(intOf i).toNat)
 case atStart=>exact⟨0,[],0,rfl,rfl,zH (qi.start l1 l2),zH hown0,hb0⟩
 case round =>
  clear hown0 hb0;obtain⟨k,xs,q,rfl,rfl,hinv,hown,hb⟩:=hrel;have q0:=hinv.out.2.2.1;have q1:=hinv.out.2.2.2.1;have hkm:=hinv.out.2.2.2.2.1;have hlx:xs.length+([0]:List Int).length<=1000000000:=by have:=hinv.out.1;simp;omega
  by_cases h1:k<l1.length
  ·obtain⟨st1,st2⟩:=hinv.out.step L1 L2 h1;have p2:=jX l2 k;have a1:=(L1.getD k).1;have a1':l1.getD k 0<4294967296:=(L1.getD k).2;have a2:=(L2.getD k).1;have a2':l2.getD k 0<4294967296:=(L2.getD k).2;obtain⟨b1',o1,e1,hcl1⟩:=m1 (by rw [eQ];omega);have E1:=zH e1;have hcell1:=(hcl1.on hb).ucell k h1
   have hc2:k<l2.length->∃ b o,Hid (ao2=some ⟨b,o,none⟩)/\wr.cell? ⟨b,o+k,none⟩=some (.int .u32 (l2.getD k 0)):=fun h=>by
    obtain⟨b,o,e,hc⟩:=m2 (by rw [eQ];omega);exact⟨b,o,zH e,(hc.on hb).ucell k h⟩
   generalize l1.getD k 0=x at *;generalize l2.getD k 0=y at *;have hbe:=hown.out.base_le
   have happ:∀ z:Int,0<=z->z<4294967296->cB Gj w.heap.size (wr.alloc (.cells #[.int .u32 z] uT)) u5 xs/\bS Gj (wr.alloc (.cells #[.int .u32 z] uT)) (.slice (some ⟨wr.heap.size,0,none⟩) 1 1) [z]/\w.heap.size<=(wr.alloc (.cells #[.int .u32 z] uT)).heap.size /\
     ∀ w5,Lr u5.ownBlock uT (wr.alloc (.cells #[.int .u32 z] uT)) w5->Below w.heap.size w w5:=fun z z0 z1=>by
    have hba:Below wr.heap.size wr (wr.alloc (.cells #[.int .u32 z] uT)):=(Below.refl _ _).alloc (Nat.le_refl _) _;have hbw:=hb.trans (hba.mono hb.size);exact⟨hown.out.on hba,uS.2 (dH.newOne wr (by rw [aT];exact⟨z0,z1⟩)),hbw.size,fun w5 hl=>hbw.trans (hl.belowAt hbw.size (fun k hk=>(hbe k hk).1))⟩
   clear e1 hcl1 hown;have hxq1:-9223372036854775808<=x-q/\x-q<=9223372036854775807:=by omega
   by_cases h2:k<l2.length
   ·obtain⟨b2',o2,E2,hcell2⟩:=hc2 h2;clear p2 hc2;by_cases hd:x - q - y<0
    ·replace st1:=zH (st1 hd);obtain⟨s1,s2,s3,s4⟩:=happ (x - q - y+4294967296) (by omega) (by omega);clear happ st2
     go_wp2_with (first
      | (refine aj rfl (.tmp 16) (.tmp 17) _ rfl _ Tryz.underlying37 _ _ _ bM _ _ _ rfl _ _ rfl k rfl h1 b1' o1 E1.out ?_;rw [Nat.mul_one])
      | (refine aj rfl (.tmp 28) (.tmp 29) _ rfl _ Tryz.underlying37 _ _ _ bM _ _ _ rfl _ _ rfl k rfl h2 b2' o2 E2.out ?_;rw [Nat.mul_one])
      | (at_builtin;refine cZ rfl _ _ 37 rfl Tryz.underlying37 kR rfl rfl s1 s2 hlx s3 ?_;intro v5 w5 hown5 hl5 hv5;replace s4:=s4 w5 hl5))
     go_roundw
     case rel=>exact⟨k+1,_,_,by go_num,rfl,st1,zH hown5,s4⟩
     case measure=>simp [intOf];omega
    ·replace st2:=zH (st2 hd);obtain⟨s1,s2,s3,s4⟩:=happ (x - q - y) (by omega) (by omega);clear happ st1
     go_wp2_with (first
      | (refine aj rfl (.tmp 16) (.tmp 17) _ rfl _ Tryz.underlying37 _ _ _ bM _ _ _ rfl _ _ rfl k rfl h1 b1' o1 E1.out ?_;rw [Nat.mul_one])
      | (refine aj rfl (.tmp 28) (.tmp 29) _ rfl _ Tryz.underlying37 _ _ _ bM _ _ _ rfl _ _ rfl k rfl h2 b2' o2 E2.out ?_;rw [Nat.mul_one])
      | (at_builtin;refine cZ rfl _ _ 37 rfl Tryz.underlying37 kR rfl rfl s1 s2 hlx s3 ?_;intro v5 w5 hown5 hl5 hv5;replace s4:=s4 w5 hl5))
     go_roundw
     case rel=>exact⟨k+1,_,_,by go_num,rfl,st2,zH hown5,s4⟩
     case measure=>simp [intOf];omega
   ·obtain rfl:=p2 h2;clear p2 hc2;rw [Int.sub_zero] at st1 st2;by_cases hd:x - q<0
    ·replace st1:=zH (st1 hd);obtain⟨s1,s2,s3,s4⟩:=happ (x - q+4294967296) (by omega) (by omega);clear happ st2
     go_wp2_with (first
      | (refine aj rfl (.tmp 16) (.tmp 17) _ rfl _ Tryz.underlying37 _ _ _ bM _ _ _ rfl _ _ rfl k rfl h1 b1' o1 E1.out ?_;rw [Nat.mul_one])
      | (at_builtin;refine cZ rfl _ _ 37 rfl Tryz.underlying37 kR rfl rfl s1 s2 hlx s3 ?_;intro v5 w5 hown5 hl5 hv5;replace s4:=s4 w5 hl5))
     go_roundw
     case rel=>exact⟨k+1,_,_,by go_num,rfl,st1,zH hown5,s4⟩
     case measure=>simp [intOf];omega
    ·replace st2:=zH (st2 hd);obtain⟨s1,s2,s3,s4⟩:=happ (x - q) (by omega) (by omega);clear happ st1
     go_wp2_with (first
      | (refine aj rfl (.tmp 16) (.tmp 17) _ rfl _ Tryz.underlying37 _ _ _ bM _ _ _ rfl _ _ rfl k rfl h1 b1' o1 E1.out ?_;rw [Nat.mul_one])
      | (at_builtin;refine cZ rfl _ _ 37 rfl Tryz.underlying37 kR rfl rfl s1 s2 hlx s3 ?_;intro v5 w5 hown5 hl5 hv5;replace s4:=s4 w5 hl5))
     go_roundw
     case rel=>exact⟨k+1,_,_,by go_num,rfl,st2,zH hown5,s4⟩
     case measure=>simp [intOf];omega
  ·obtain rfl:k=l1.length:=by omega
   have hd:=zH (hinv.out.done hlen nz);go_wp2;go_ret;exact⟨_,xs,rfl,uS.1 hown.out.isSl,hd.out,hb⟩
end Go.Proofs.YtopclbeomcggiaaGreat
end
section
namespace Q
open Go Go.RowKit Go.Proofs.YtopclbeomcggiaaGreat
def af.lim {g:Option Nat} {T:TypeId} (hT:uT≠T) (z:Int) (n:Nat):af (Lr g T):=af.of (fun v w=>∃ l,dH w v l/\ah l=z/\l.length<=n) (fun _ _ _ hb ⟨l,h,e⟩=>⟨l,h.lr hb hT,e⟩)
end Q
namespace Go.Proofs.YtopclbeomcggiaaGreat
open Go.RowKit Q
theorem Fh {w:World} {v:Value} {z:Int} {n:Nat} (h:∃ l,dH w v l/\ah l=z/\l.length<=n) (hn:n<=100000000) (neg:Bool):Calls Tryz.prog 103 #[v,.bool neg] w (lI w (fZ neg z)):=by
 obtain⟨l,hu,rfl,hl⟩:=h;exact ku neg v l w hu (by omega)
theorem Ba (n1 n2:Bool) (m1 m2:Value) (z1 z2:Int) (w:World) (h1:aZ w n1 m1 z1) (h2:aZ w n2 m2 z2) (c1:aI z1.natAbs<=CS) (c2:aI z2.natAbs<=CS) :
  Calls Tryz.prog 108 #[.agg #[.bool n1,m1],.agg #[.bool n2,m2]] w (lI w (z1+z2)):=by
 obtain⟨l1,ao1,cap1,rfl,hc1,b1,u1,L1,mm1,nn1,hp1,e1⟩:=h1.openS c1;obtain⟨l2,ao2,cap2,rfl,hc2,b2,u2,L2,mm2,nn2,hp2,e2⟩:=h2.openS c2;clear hc1 hc2 mm1 mm2 h1 h2 c1 c2 hp1 hp2;by_cases hn:n1=n2
 ·subst hn;have e:z1+z2=fZ n1 (ah l1+ah l2):=by rw [e1,e2];cases n1 <;> simp [fZ] <;> omega
  rw [e];clear e e1 e2;have hnb:(n1 == n1)=true:=by simp
  go_enter Tryz.func108,Tryz.ntmps108
  go_upto_region 1 with (fail)
  refine rY fun W hb0 B1 B2 B3 hsz=>?_;have x1:=B1.at1 0 _ rfl;have x2:=B2.at1 0 _ rfl
  go_upto_region 2 with (fail)
  refine aF mixed (none) (0) (gp.none) [.eq (.pointer (some ⟨w.heap.size,1,none⟩)),.eq (.slice ao1 l1.length cap1),.eq (.pointer (some ⟨w.heap.size+1,1,none⟩)),.eq (.slice ao2 l2.length cap2),.lim (by decide) (ah l1+ah l2) 1000000,.eq (.pointer (some ⟨w.heap.size,0,none⟩)),.eq (.bool n1),.int (by decide) ((fZ n1 (ah l1+ah l2)))] [10,11,12,13,14,15,16,17] rfl rfl rfl rfl ⟨?_,?_,?_,?_,?_,?_,?_,?_,trivial⟩ ?_
  ·intro A w1 hA hL hS he;have h2:A.eval (.tmp 2)=.pointer (some ⟨w.heap.size,0,none⟩):=hA 2 rfl;exact pZ rfl
  ·intro A w1 hA hL hS he;have hb:=hL.below;have h10:=eT 10 (he.1 rfl);have c0:=((B1).on hb).at1 1 _ rfl;exact pZ rfl
  ·intro A w1 hA hL hS he;have h3:A.eval (.tmp 3)=.pointer (some ⟨w.heap.size+1,0,none⟩):=hA 3 rfl;exact pZ rfl
  ·intro A w1 hA hL hS he;have hb:=hL.below;have h12:=eT 12 (he.1 rfl);have c0:=((B2).on hb).at1 1 _ rfl;exact pZ rfl
  ·intro A w1 hA hL hS he;have hb:=hS rfl;have h11:=eT 11 (he.1 rfl);have h13:=eT 13 (he.2.1 rfl);have hf0:=eF A 125;refine ae rfl ?_;refine fI (f:=125) (args:=#[.slice ao1 l1.length cap1,.slice ao2 l2.length cap2]) rfl rfl ?_ ?_
   ·exact gZ
   ·refine (NA _ _ l1 l2 _ ((u1.on hb0).on hb) ((u2.on hb0).on hb) (by omega) (by omega)).mono ?_;rintro e w' ⟨v,l,rfl,hu,hp,hb'⟩;exact⟨_,rfl,hb',l,hu,hp.1,by omega⟩
  ·intro A w1 hA hL hS he;have h2:A.eval (.tmp 2)=.pointer (some ⟨w.heap.size,0,none⟩):=hA 2 rfl;exact pZ rfl
  ·intro A w1 hA hL hS he;have hb:=hL.below;have h15:=eT 15 (he.1 rfl);have c0:=((B1).on hb).at1 0 _ rfl;exact pZ rfl
  ·intro A w1 hA hL hS he;have hb:=hS rfl;obtain⟨v14,h14,f14⟩:=fT 14 (he.1 rfl);have h16:=eT 16 (he.2.1 rfl);have hf0:=eF A 103;exact cP (f:=103) (args:=#[v14,.bool n1]) (Fh f14 (by omega) n1)
  ·intro W2 hL2;have hb2:=hL2.below;simp only [aU,af.eq,af.ret,af.int,af.lim,af.of,lZ];rintro _ - _ ⟨n7,m7,rfl,i7⟩;go_frame;have B3':=B3.on hb2
   go_wp2_with (refine aA rfl _ (.tmp 4) (.tmp 17) rfl _ _ _ _ rfl rfl B3' rfl aR i7.ones ?_;intro w3 R gr)
   exact dM rfl rfl rfl R Tryz.underlying39 rfl aR (jE hb0 hb2 (by omega) B3' i7 gr)
 ·have hnb:(n1 == n2)=false:=by simpa using hn
  have HL1:=fun W (hb:Below w.heap.size w W)=>A8 _ _ l1 l2 W (u1.on hb) (u2.on hb) (by omega) (by omega) nn1 nn2
  go_enter Tryz.func108,Tryz.ntmps108
  go_upto_region 1 with (fail)
  refine rY fun W hb0 B1 B2 B3 hsz=>?_;have x1:=B1.at1 0 _ rfl;have x2:=B2.at1 0 _ rfl;have x3:=B1.at1 1 _ rfl;have x4:=B2.at1 1 _ rfl
  go_upto_region 3 with (fail)
  by_cases hlt:ah l1<ah l2
  ·simp only [hlt,decide_true] at HL1;have e:z1+z2=fZ n2 (ah l2-ah l1):=by rw [e1,e2];cases n1 <;> cases n2 <;> simp [fZ] at * <;> omega
   replace e:=zH e;clear e1 e2;have hlen:=iD L2 L1 nn1 (by omega)
   go_upto_region 4 with (go_at_call 102;refine (HL1 W hb0).mono ?_;rintro en w1 ⟨rfl,hb1⟩)
   have hb01:=hb0.trans (hb1.mono hb0.size);replace B1:=B1.on hb1;replace B2:=B2.on hb1;replace B3:=B3.on hb1;refine aF mixed (none) (0) (gp.none) [.eq (.pointer (some ⟨w.heap.size+1,1,none⟩)),.eq (.slice ao2 l2.length cap2),.eq (.pointer (some ⟨w.heap.size,1,none⟩)),.eq (.slice ao1 l1.length cap1),.lim (by decide) (ah l2-ah l1) 1000000,.eq (.pointer (some ⟨w.heap.size+1,0,none⟩)),.eq (.bool n2),.int (by decide) ((fZ n2 (ah l2-ah l1)))] [23,24,25,26,27,28,29,30] rfl rfl rfl rfl ⟨?_,?_,?_,?_,?_,?_,?_,?_,trivial⟩ ?_
   ·intro A w1 hA hL hS he;have h3:A.eval (.tmp 3)=.pointer (some ⟨w.heap.size+1,0,none⟩):=hA 3 rfl;exact pZ rfl
   ·intro A w1 hA hL hS he;have hb:=hL.below;have h23:=eT 23 (he.1 rfl);have c0:=((B2).on hb).at1 1 _ rfl;exact pZ rfl
   ·intro A w1 hA hL hS he;have h2:A.eval (.tmp 2)=.pointer (some ⟨w.heap.size,0,none⟩):=hA 2 rfl;exact pZ rfl
   ·intro A w1 hA hL hS he;have hb:=hL.below;have h25:=eT 25 (he.1 rfl);have c0:=((B1).on hb).at1 1 _ rfl;exact pZ rfl
   ·intro A w1 hA hL hS he;have hb:=hS rfl;have h24:=eT 24 (he.1 rfl);have h26:=eT 26 (he.2.1 rfl);have hf0:=eF A 126;refine ae rfl ?_;refine fI (f:=126) (args:=#[.slice ao2 l2.length cap2,.slice ao1 l1.length cap1]) rfl rfl ?_ ?_
    ·exact gZ
    ·refine (A9 _ _ l2 l1 _ ((u2.on hb01).on hb) ((u1.on hb01).on hb) (by omega) hlen (by omega)).mono ?_;rintro e w' ⟨v,l,rfl,hu,hp,hb'⟩;exact⟨_,rfl,hb',l,hu,hp.1,by omega⟩
   ·intro A w1 hA hL hS he;have h3:A.eval (.tmp 3)=.pointer (some ⟨w.heap.size+1,0,none⟩):=hA 3 rfl;exact pZ rfl
   ·intro A w1 hA hL hS he;have hb:=hL.below;have h28:=eT 28 (he.1 rfl);have c0:=((B2).on hb).at1 0 _ rfl;exact pZ rfl
   ·intro A w1 hA hL hS he;have hb:=hS rfl;obtain⟨v27,h27,f27⟩:=fT 27 (he.1 rfl);have h29:=eT 29 (he.2.1 rfl);have hf0:=eF A 103;exact cP (f:=103) (args:=#[v27,.bool n2]) (Fh f27 (by omega) n2)
   ·intro W2 hL2;have hb2:=hL2.below;simp only [aU,af.eq,af.ret,af.int,af.lim,af.of,lZ];rintro _ - _ ⟨n7,m7,rfl,i7⟩;go_frame;have B3':=B3.on hb2
    go_wp2_with (refine aA rfl _ (.tmp 4) (.tmp 30) rfl _ _ _ _ rfl rfl B3' rfl aR i7.ones ?_;intro w3 R gr)
    exact dM rfl rfl rfl R Tryz.underlying39 rfl aR (by rw [e.out];exact jE hb01 hb2 (by omega) B3' i7 gr)
  ·simp only [hlt,decide_false] at HL1;have e:z1+z2=fZ n1 (ah l1-ah l2):=by rw [e1,e2];cases n1 <;> cases n2 <;> simp [fZ] at * <;> omega
   replace e:=zH e;clear e1 e2;have hlen:=iD L1 L2 nn2 (by omega)
   go_upto_region 5 with (go_at_call 102;refine (HL1 W hb0).mono ?_;rintro en w1 ⟨rfl,hb1⟩)
   have hb01:=hb0.trans (hb1.mono hb0.size);replace B1:=B1.on hb1;replace B2:=B2.on hb1;replace B3:=B3.on hb1;refine aF mixed (none) (0) (gp.none) [.eq (.pointer (some ⟨w.heap.size,1,none⟩)),.eq (.slice ao1 l1.length cap1),.eq (.pointer (some ⟨w.heap.size+1,1,none⟩)),.eq (.slice ao2 l2.length cap2),.lim (by decide) (ah l1-ah l2) 1000000,.eq (.pointer (some ⟨w.heap.size,0,none⟩)),.eq (.bool n1),.int (by decide) ((fZ n1 (ah l1-ah l2)))] [31,32,33,34,35,36,37,38] rfl rfl rfl rfl ⟨?_,?_,?_,?_,?_,?_,?_,?_,trivial⟩ ?_
   ·intro A w1 hA hL hS he;have h2:A.eval (.tmp 2)=.pointer (some ⟨w.heap.size,0,none⟩):=hA 2 rfl;exact pZ rfl
   ·intro A w1 hA hL hS he;have hb:=hL.below;have h31:=eT 31 (he.1 rfl);have c0:=((B1).on hb).at1 1 _ rfl;exact pZ rfl
   ·intro A w1 hA hL hS he;have h3:A.eval (.tmp 3)=.pointer (some ⟨w.heap.size+1,0,none⟩):=hA 3 rfl;exact pZ rfl
   ·intro A w1 hA hL hS he;have hb:=hL.below;have h33:=eT 33 (he.1 rfl);have c0:=((B2).on hb).at1 1 _ rfl;exact pZ rfl
   ·intro A w1 hA hL hS he;have hb:=hS rfl;have h32:=eT 32 (he.1 rfl);have h34:=eT 34 (he.2.1 rfl);have hf0:=eF A 126;refine ae rfl ?_;refine fI (f:=126) (args:=#[.slice ao1 l1.length cap1,.slice ao2 l2.length cap2]) rfl rfl ?_ ?_
    ·exact gZ
    ·refine (A9 _ _ l1 l2 _ ((u1.on hb01).on hb) ((u2.on hb01).on hb) (by omega) hlen (by omega)).mono ?_;rintro e w' ⟨v,l,rfl,hu,hp,hb'⟩;exact⟨_,rfl,hb',l,hu,hp.1,by omega⟩
   ·intro A w1 hA hL hS he;have h2:A.eval (.tmp 2)=.pointer (some ⟨w.heap.size,0,none⟩):=hA 2 rfl;exact pZ rfl
   ·intro A w1 hA hL hS he;have hb:=hL.below;have h36:=eT 36 (he.1 rfl);have c0:=((B1).on hb).at1 0 _ rfl;exact pZ rfl
   ·intro A w1 hA hL hS he;have hb:=hS rfl;obtain⟨v35,h35,f35⟩:=fT 35 (he.1 rfl);have h37:=eT 37 (he.2.1 rfl);have hf0:=eF A 103;exact cP (f:=103) (args:=#[v35,.bool n1]) (Fh f35 (by omega) n1)
   ·intro W2 hL2;have hb2:=hL2.below;simp only [aU,af.eq,af.ret,af.int,af.lim,af.of,lZ];rintro _ - _ ⟨n7,m7,rfl,i7⟩;go_frame;have B3':=B3.on hb2
    go_wp2_with (refine aA rfl _ (.tmp 4) (.tmp 38) rfl _ _ _ _ rfl rfl B3' rfl aR i7.ones ?_;intro w3 R gr)
    exact dM rfl rfl rfl R Tryz.underlying39 rfl aR (by rw [e.out];exact jE hb01 hb2 (by omega) B3' i7 gr)
theorem PG (n1 n2:Bool) (m1 m2:Value) (z1 z2:Int) (w:World) (h1:aZ w n1 m1 z1) (h2:aZ w n2 m2 z2) (c1:aI z1.natAbs<=CS) (c2:aI z2.natAbs<=CS) :
  Calls Tryz.prog 140 #[.agg #[.bool n1,m1],.agg #[.bool n2,m2]] w (lI w (z1-z2)):=by
 obtain⟨a1,k1,q1,rfl,-,-⟩:=h1.shape;obtain⟨a2,k2,q2,rfl,-,-⟩:=h2.shape;have c3:aI (-z2).natAbs<=CS:=by rw [Int.natAbs_neg];exact c2
 rw [Int.sub_eq_add_neg]
 go_enter Tryz.func140,Tryz.ntmps140
 go_upto_region 1 with (fail)
 refine rY fun W hb0 B1 B2 B3 hsz=>?_;refine aF mixed (none) (0) (gp.none) [.eq (.agg #[.bool n1,.slice a1 k1 q1]),.eq (.agg #[.bool n2,.slice a2 k2 q2]),.int (by decide) ((-z2)),.int (by decide) ((z1+-z2))] [5,6,7,8] rfl rfl rfl rfl ⟨?_,?_,?_,?_,trivial⟩ ?_
 ·intro A w1 hA hL hS he;have hb:=hL.below;have h2:A.eval (.tmp 2)=.pointer (some ⟨w.heap.size,0,none⟩):=hA 2 rfl;have c0:=((B1).on hb).at1 0 _ rfl;have c1:=((B1).on hb).at1 1 _ rfl;exact pZ rfl
 ·intro A w1 hA hL hS he;have hb:=hL.below;have h3:A.eval (.tmp 3)=.pointer (some ⟨w.heap.size+1,0,none⟩):=hA 3 rfl;have c0:=((B2).on hb).at1 0 _ rfl;have c1:=((B2).on hb).at1 1 _ rfl;exact pZ rfl
 ·intro A w1 hA hL hS he;have hb:=hS rfl;have h6:=eT 6 (he.1 rfl);have hf0:=eF A 124;exact cP (f:=124) (args:=#[.agg #[.bool n2,.slice a2 k2 q2]]) (vX _ _ _ _ ((h2.on hb0).on hb) c2)
 ·intro A w1 hA hL hS he;have hb:=hS rfl;have h5:=eT 5 (he.1 rfl);obtain⟨v7,h7,f7⟩:=fT 7 (he.2.1 rfl);have hf0:=eF A 108;refine ae rfl ?_;refine fI (f:=108) (args:=#[.agg #[.bool n1,.slice a1 k1 q1],v7]) rfl rfl ?_ ?_
  ·exact gZ
  ·obtain⟨n7,m7,rfl,i7⟩:=f7;refine (Ba _ _ _ _ _ _ _ ((h1.on hb0).on hb) i7 c1 c3).mono ?_;rintro e w' ⟨neg,m,rfl,hi,hb'⟩;exact⟨_,rfl,hb',neg,m,rfl,hi⟩
 ·intro W2 hL2;have hb2:=hL2.below;simp only [aU,af.eq,af.ret,af.int,af.lim,af.of,lZ];rintro _ - _ ⟨n7,m7,rfl,i7⟩;go_frame;have B3':=B3.on hb2
  go_wp2_with (refine aA rfl _ (.tmp 4) (.tmp 8) rfl _ _ _ _ rfl rfl B3' rfl aR i7.ones ?_;intro w3 R gr)
  exact dM rfl rfl rfl R Tryz.underlying39 rfl aR (jE hb0 hb2 (by omega) B3' i7 gr)
end Go.Proofs.YtopclbeomcggiaaGreat
end
