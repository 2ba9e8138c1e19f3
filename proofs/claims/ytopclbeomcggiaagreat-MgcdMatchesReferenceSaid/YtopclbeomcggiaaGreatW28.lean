/- mpoly.Pseudo. -/
import Derived.Test.YtopclbeomcggiaaGreatW27
set_option linter.unusedVariables false
set_option linter.unusedSimpArgs false
set_option maxHeartbeats 16000000
set_option maxRecDepth 100000
section
namespace Q
def fO (D R:List (List ai)):List (List ai) :=
 let n:=D.length-1
 let top:=R.getD (R.length-1) []
 (List.range (R.length-1)).map λi=>if R.length-1-n<=i then gH (aX (R.getD i []) (D.getD n [])) (aX top (D.getD (i-(R.length-1-n)) []))else aX (R.getD i []) (D.getD n [])
def gm (D:List (List ai)):Nat->List (List ai)->List (List ai)
 | 0,R=>R
 | f+1,R=>if D.length-1<R.length then gm D f (fO D R)else R
theorem gY(D R:List (List ai)):(fO D R).length=R.length-1:=by simp[fO]
def sD (D R:List (List ai)) (i:Nat):List (List ai):=(fO D R).take i++(R.take (R.length-1)).drop i
theorem QT{D R:List (List ai)}{i:Nat}(h:i<=R.length-1):(sD D R i).length=R.length-1:=by simp[sD,gY];omega
theorem O3(D R:List (List ai)):sD D R 0=R.take (R.length-1):=by simp[sD]
theorem O4(D R:List (List ai)):sD D R (R.length-1)=fO D R:=by rw[sD,List.drop_of_length_le sM,List.append_nil,tL (by rw[gY];exact nL _)]
theorem QU{D R:List (List ai)}{i:Nat}(h:i<R.length-1):(sD D R i)[i]?=some (R.getD i []):=by
 have b:((fO D R).take i).length=i:=by rw[List.length_take,gY];omega
 rw[sD,List.getElem?_append_right oM,List.getElem?_drop];rw[b,Nat.sub_self,Nat.add_zero,List.getElem?_take,if_pos h,jD,gE oM]
 rfl
theorem O5{D R:List (List ai)}{i:Nat}(h:i<R.length-1) :
  sD D R (i+1)=(sD D R i).set i (if R.length-1-(D.length-1)<=i then gH (aX (R.getD i []) (D.getD (D.length-1) [])) (aX (R.getD (R.length-1) []) (D.getD (i-(R.length-1-(D.length-1))) []))else aX (R.getD i []) (D.getD (D.length-1) [])):=by
 have b:((fO D R).take i).length=i:=by rw[List.length_take,gY];omega
 rw[sD,sD,List.set_append_right _ _ oM,b,Nat.sub_self,List.drop_eq_getElem_cons (show i<(R.take (R.length-1)).length by simp;omega),List.set_cons_zero,List.take_add_one,List.append_assoc]
 congr 1
 have:(fO D R)[i]?=some (if R.length-1-(D.length-1)<=i then gH (aX (R.getD i []) (D.getD (D.length-1) [])) (aX (R.getD (R.length-1) []) (D.getD (i-(R.length-1-(D.length-1))) []))else aX (R.getD i []) (D.getD (D.length-1) [])):=by simp[fO,h]
 rw[this];rfl
end Q
namespace Q
open Go Go.RowKit Go.Proofs.YtopclbeomcggiaaGreat
structure QW (p q:List ai):Prop where
 kp:∀t∈p,InR t.1/\Rk t.2
 kq:∀t∈q,InR t.1/\Rk t.2
 ko:Tv (prods p q)
 kl:p.length<=100000000/\q.length<=100000000
structure WS (p q:List ai):Prop where
 kp:∀t∈p,Rk t.2
 kq:∀t∈q,Rk t.2
 kl:p.length<=100000000/\q.length<=100000000
 kv:bR p/\bR q
def Ym (D R:List (List ai)):Prop:=∀i,i<R.length-1->QW (R.getD i []) (D.getD (D.length-1) []) /\
 (R.length-1-(D.length-1)<=i->QW (R.getD (R.length-1) []) (D.getD (i-(R.length-1-(D.length-1))) [])/\WS (aX (R.getD i []) (D.getD (D.length-1) [])) (aX (R.getD (R.length-1) []) (D.getD (i-(R.length-1-(D.length-1))) [])))
def I9 (D:List (List ai)):Nat->List (List ai)->Prop
 | 0,_=>True
 | f+1,R=>D.length-1<R.length->Ym D R/\I9 D f (fO D R)
structure oO (w:World) (g:Nat) (vs:List Value) (R:List (List ai)):Prop where
 b:Blk w g polyT vs
 l:R.length<=vs.length
 p:∀(i:Nat) v p,vs[i]?=some v->R[i]?=some p->ak w v p
theorem oO.on{w w':World}{g:Nat}{vs:List Value}{R:List (List ai)}(h:oO w g vs R)(hb:Below w.heap.size w w'):oO w' g vs R :=
 ⟨h.b.on hb,h.l,λi v p d e=>(h.p i v p d e).on hb⟩
theorem oO.get{w:World}{g:Nat}{vs:List Value}{R:List (List ai)}(h:oO w g vs R){i:Nat}(d:i<R.length):∃v,vs[i]?=some v/\ak w v (R.getD i [])/\w.cell? ⟨g,i,none⟩=some v:=by have e:=h.l;have hv:vs[i]?=some vs[i]:=gE oM;refine⟨vs[i],hv,h.p i _ _ hv ?_,h.b.at1 i _ hv⟩;rw[jD,gE d];rfl
theorem oO.set{w:World}{g:Nat}{vs:List Value}{R:List (List ai)}(h:oO w g vs R){i:Nat}(n:i<R.length){v:Value}{q:List ai}(hq:ak w v q) :
  oO (w.setCell ⟨g,i,none⟩ v) g (vs.set i v) (R.set i q)/\Lr (some g) polyT w (w.setCell ⟨g,i,none⟩ v):=by
 have m:=aY (j:=i) h.b v;refine⟨⟨h.b.set i v,by simpa using h.l,λj u p d e=>?_⟩,m⟩;rw[List.getElem?_set]at d e;by_cases k:i=j
 ·subst k;rw[if_pos rfl,if_pos (by have:=h.l;omega)]at d;rw[if_pos rfl,if_pos n]at e;cases d;cases e;exact hq.lr m (aW dM) dM
 ·rw[if_neg k]at d e;exact(h.p j u p d e).lr m (aW dM) dM
theorem oO.take{w:World}{g:Nat}{vs:List Value}{R:List (List ai)}(h:oO w g vs R)(k:Nat):oO w g vs (R.take k) :=
 ⟨h.b,by have:=h.l;rw[List.length_take];omega,λi v p e d=>h.p i v p e (by rw[List.getElem?_take]at d;split at d;exact d;cases d)⟩
theorem oO.other{w w':World}{g h:Nat}{vs:List Value}{R:List (List ai)}(hc:oO w g vs R)(e:Lr (some h) polyT w w')(d:g≠h):oO w' g vs R :=
 ⟨hc.b.lr e (by simpa using d),hc.l,λi v p j k=>(hc.p i v p j k).lr e (aW dM) dM⟩
theorem oO.polys{w:World}{g:Nat}{vs:List Value}{R:List (List ai)}(h:oO w g vs R):je w (.slice (some ⟨g,0,none⟩) R.length vs.length) R:=by
 refine⟨_,_,vs.take R.length,rfl,h.l,λ_=>⟨g,0,rfl,h.b.cells.take _⟩,uz (by rw[List.length_take];have:=h.l;omega) λn v l d e=>?_⟩;rw[List.getElem?_take]at d;split at d
 ·exact h.p n v l d e
 ·cases d
end Q
namespace Go.Proofs.YtopclbeomcggiaaGreat
open Go Go.RowKit Q Go.Proofs.YtopclbeomcggiaaGreat
theorem kG.cols{w:World}{g base:Nat}{vs:List Value}{L:List (List ai)}(h:kG base w vs L)(e:Blk w g polyT vs):oO w g vs L :=
 ⟨e,by rw[h.len];exact nL _,λi v p b d=>(h.own i v p b d).isSl⟩
end Go.Proofs.YtopclbeomcggiaaGreat
namespace Q
open Go Go.RowKit Go.Proofs.YtopclbeomcggiaaGreat
end Q
namespace Q
open Go Go.RowKit
theorem oo{P:Program}{w:World}{ops:Array Oper}{rest:List Oper}{o:Oper}{a:Act}{Q:Exit->Act->World->Prop}(hg:o.guard=none)(x p:Operand)(t:TypeId)(m:o.op=Op.slice t x none (some p) none){el:TypeId}(u:P.underlying t=some (.slice el)){size:Nat}(s:(P.info? el).map (·.size)=some size)
  (d:Option Addr) (n c:Nat) (y:a.eval x=.slice d n c) (k:IntKind) (i:Int) (l:a.eval p=.int k i) (j:Nat) (e:i=(j:Int)) (r:j<=c) (h:wpList P ops Q rest (a.put o.dst (.slice d j c)) w):wpList P ops Q (o::rest) a w:=by
 refine wpList_plain hg λK q=>?_;have b:=jX u s w d n c j k i e r;unfold Oper.wp;rw[jE m (by simp only[Option.map_some,Option.map_none];rw[y,l];exact b)];exact q _ _ h
end Q
namespace Go.Proofs.YtopclbeomcggiaaGreat
open Go.RowKit Q Go.WideMaps Go.Maps
def CF (w:World) (l:List ai) (c:Int) (e:Ending) (w':World):Prop:=∃v,e=.returned (.tuple #[v,.int .i64 c])/\ak w' v l/\Below w.heap.size w w'
theorem K8(vp vq:Value)(p q:List ai)(v:Nat)(w:World)(hp:ak w vp p)(hq:ak w vq q)(hv:v<4)(a0:q≠[])(np:dO p)(nq:dO q)(dp:aD p v<=100000)(dq:aD q v<=100000)(lp:p.length<=100000000)(lq:q.length<=100000000)
  (u:I9 (aA q v) (aA p v).length (aA p v)) (I:Tv (fromL v 0 (gm (aA q v) (aA p v).length (aA p v)))) (hl2:∀c∈gm (aA q v) (aA p v).length (aA p v),c.length<=100000000) :
  Calls Tryz.prog 94 #[vp,vq,.int .i64 v] w (CF w (tO (gm (aA q v) (aA p v).length (aA p v)) v) 0):=by
 have hD:=λW (hb:Below w.heap.size w W)=>ww vq q v W (hq.on hb) hv nq oM lq;have hR:=λW (hb:Below w.heap.size w W)=>ww vp p v W (hp.on hb) hv np oM lp;obtain⟨aq,cq,rfl,bc⟩:=hq.shape;have bi:0<q.length:=List.length_pos_iff.2 a0
 have b9:1<=(aA q v).length/\(aA q v).length<=100001:=by rw[dS];obtain⟨t,ht⟩:=List.exists_mem_of_ne_nil _ a0;have:=eU ht v;have:=Ex.nat_get (nq t ht) v;omega
 have bb:(aA p v).length<=100001:=by rw[dS];have:=rH p v;omega
 have hq0:((q.length:Int)==0)=false:=by simp;omega
 generalize aA q v=D at *;generalize aA p v=R0 at *;obtain⟨B,n⟩:∃B,gm D R0.length R0=B:=⟨_,rfl⟩;rw[n]at I hl2 ⊢
 have ar:B.length<=100001:=by
  have:∀f R,(gm D f R).length<=R.length:=by
   intro f
   induction f with
   | zero=>intro R;exact nL _
   | succ f ih=>intro R;unfold gm;split;exact Nat.le_trans (ih _) (by rw[gY];omega);exact nL _
  have:=this R0.length R0;rw[n]at this;omega
 replace I:=zH I;replace hl2:=zH hl2;obtain⟨f0,hf0⟩:∃f0,f0=R0.length:=⟨_,rfl⟩;rw[<-hf0]at n u;have aa:R0.length<=D.length - 1+f0:=oM;replace n:=zH n;replace u:=zH u;have bh:((D.length:Int) - 1)=((D.length - 1:Nat):Int):=oM;clear a0 hp hq np nq dp dq lp lq hf0
 go_enter Tryz.func94,Tryz.ntmps94
 go_upto_region 4 with (go_at_call 62;refine(hD _ (Below.refl _ _)).mono ?_;rintro en w1 ⟨F,vd,rfl,a3,aw,N,hb1⟩)
 have m:=N.cols a3;have ap:=N.len;clear a3 N aw;rw[ap]
 go_upto_region 6 with (go_at_call 62;refine(hR _ hb1).mono ?_;rintro en w2 ⟨g,vs,rfl,hB,hg,S,hb2⟩)
 have hb12:=hb1.trans (hb2.mono hb1.size);have hc0:=S.cols hB;have hcD2:=m.on hb2;have bd:F<g:=by have:=m.b.lt;omega
 have ac:w.heap.size<=g:=by have:=hb1.size;omega
 have o:=S.len;have y:Hid (oO w2 g vs R0/\vs.length=R0.length/\gm D f0 R0=B/\I9 D f0 R0/\R0.length<=D.length-1+f0):=zH ⟨hc0,o,n.out,u.out,aa⟩;rw[o];replace y:=y.out;clear n u hB S hD hR m hc0 hb1 hb2 hg o
 go_loopg [10] f0 (λf v10 wr=>∃(R:List (List ai))(vs:List Value),v10=.slice (some ⟨g,0,none⟩) R.length R0.length/\Hid (oO wr g vs R)/\vs.length=R0.length/\Hid (gm D f R=B)/\Hid (I9 D f R)/\R.length<=D.length-1+f/\R.length<=R0.length/\Hid (oO wr F vd D)/\Below w.heap.size w wr)
 case atStart=>exact⟨R0,vs,rfl,zH y.1,y.2.1,zH y.2.2.1,zH y.2.2.2.1,y.2.2.2.2,oM,zH hcD2,hb12⟩
 case round =>
  clear y hcD2 hb12;obtain⟨R,vs,rfl,hc,o,G,u,aa,ba,m,s⟩:=hrel;by_cases Z:D.length - 1<R.length
  ·obtain⟨f',rfl⟩:∃f',gk=f'+1:=⟨gk - 1,oM⟩;have a1:Hid (gm D f' (fO D R)=B):=zH (by rw[<-G.out,gm,if_pos Z]);have J:=u.out Z;have b3:=zH J.1;have b2:=zH J.2;obtain⟨vt,b7,a7,au⟩:=hc.out.get (i:=R.length - 1) oM;have aE:((R.length:Int) - 1)=((R.length - 1:Nat):Int):=oM;have an:((D.length - 1:Nat):Int)<(R.length:Int):=oM;have ao:=λW':World=>jX (P:=Tryz.prog) Tryz.underlying75 QC W' (some ⟨g,0,none⟩) R.length R0.length (R.length - 1) .i64 ((R.length - 1:Nat):Int) rfl oM;have hct2:=(hc.out.take (R.length - 1));rw[<-O3 D R]at hct2;replace hct2:=zH hct2;have L:=zH a7;have hR1:R.length<=100001:=oM;clear G u J b7 a7 hc
   go_upto_region 9 with (first
    | (refine aj rfl _ _ 75 rfl polyT Tryz.underlying75 _ 1 24 kM _ _ _ rfl .i64 _ rfl (R.length-1) oM oM g 0 rfl ?_;rw[nU,Nat.zero_add])
    | (refine oo rfl _ _ 75 rfl Tryz.underlying75 QC _ _ _ rfl .i64 _ rfl (R.length-1) oM oM ?_))
   clear au ao;go_wp2
   go_loopw [43] (λi wr=>∃(k:Nat)(vs:List Value),k<=R.length-1/\i=.int .i64 k/\Hid (oO wr g vs (sD D R k))/\vs.length=R0.length/\Hid (ak wr vt (R.getD (R.length-1) []))/\Hid (oO wr F vd D)/\Below w.heap.size w wr) (λi _=>R.length-1-(intOf i).toNat)
   case atStart=>exact⟨0,vs,oM,nM,hct2,o,L,m,s⟩
   case round =>
    clear hct2 L m s o;obtain⟨k,vs,hk,rfl,hc,o,L,m,s⟩:=hrel;by_cases C:k<R.length - 1
    ·have b8:(k:Int)<((R.length - 1:Nat):Int):=oM;have al:(sD D R k).length=R.length - 1:=QT oM;obtain⟨vk,a2,-,a8⟩:=hc.out.get (i:=k) oM;have a4:ak wr vk (R.getD k []):=hc.out.p k _ _ a2 (QU C);obtain⟨vn,b5,a5,a9⟩:=m.out.get (i:=D.length - 1) oM;obtain⟨mo,mo2⟩:=b3.out k C;have d:=O5 (D:=D) C;replace d:=zH d;replace mo2:=zH mo2;have ax:g<wr.heap.size:=hc.out.b.lt;have ab:F<wr.heap.size:=m.out.b.lt;have f1:∀W,Below wr.heap.size wr W->W.cell? ⟨g,k,none⟩=some vk:=λW h=>by rw[h.cell ax];exact a8
     have f2:∀W,Below wr.heap.size wr W->W.cell? ⟨F,D.length-1,none⟩=some vn:=λW h=>by rw[h.cell ab];exact a9
     clear a8 a9
     go_upto_region 12 with (fail)
     refine aC mixed (none) (0) (fK.none) [.eq (.slice (some ⟨g,0,none⟩) (R.length-1) R0.length),.eq (.int .i64 k),.eq (.slice (some ⟨g,0,none⟩) (R.length-1) R0.length),.eq (.int .i64 k),.eq (.pointer (some ⟨g,0+k*1,none⟩)),.eq (vk),.eq (.slice (some ⟨F,0,none⟩) D.length D.length),.eq (.int .i64 (D.length-1:Nat)),.eq (.pointer (some ⟨F,0+(D.length-1)*1,none⟩)),.eq (vn),.poly dM dM ((aX (R.getD k []) (D.getD (D.length-1) []))),.eq (.pointer (some ⟨g,0+k*1,none⟩))] [46,47,48,49,50,51,52,53,54,55,56,57] rfl rfl rfl rfl ⟨λ_ _ a _ _ _=>xM rfl (a 10 rfl),λ_ _ a _ _ _=>xM rfl (a 12 rfl),λ_ _ a _ _ _=>xM rfl (a 10 rfl),λ_ _ a _ _ _=>xM rfl (a 12 rfl),λ_ _ _ _ _ e=>pI rfl Tryz.underlying75 g 0 k (C) (e.1 rfl) (e.2.1 rfl),?_,λ_ _ a _ _ _=>xM rfl (a 8 rfl),λ_ _ a _ _ _=>xM rfl (a 9 rfl),λ_ _ _ _ _ e=>pI rfl Tryz.underlying75 F 0 (D.length-1) oM (e.1 rfl) (e.2.1 rfl),?_,λA _ _ _ hS he=>have hb:=hS rfl;have h51:=eT 51 (he.1 rfl);have h55:=eT 55 (he.2.1 rfl);have hf0:=eF A 54;cP (f:=54) (args:=#[vk,vn]) (ze _ _ _ _ _ (a4.on hb) (a5.on hb) mo.kp mo.kq mo.ko mo.kl.1 mo.kl.2),λ_ _ _ _ _ e=>pI rfl Tryz.underlying75 g 0 k (C) (e.1 rfl) (e.2.1 rfl),trivial⟩ ?_
     ·intro A w1 hA hL hS he;have h50:=eT 50 (he.1 rfl);refine ae rfl ?_;have c0:=f1 w1 hL.below;exact aB rfl rfl gZ
     ·intro A w1 hA hL hS he;have h54:=eT 54 (he.1 rfl);refine ae rfl ?_;have c0:=f2 w1 hL.below;exact aB rfl rfl gZ
     ·intro W2 hL2;have hb2:=hL2.below;simp only[aT,af.eq,af.poly,af.of,lZ];rintro v56 h56;go_frame;have hc2:=hc.out.on hb2;have hcD2:=m.out.on hb2;have hpt2:=L.out.on hb2;have hbr2:=s.trans (hb2.mono s.size);have z:=hc2.b.at1 k _ a2;have hf:=hc2.b.frozen k;have ay:k<(sD D R k).length:=oM;obtain⟨hc3,hl3⟩:=hc2.set ay h56;have hcD3:oO (W2.setCell ⟨g,k,none⟩ v56) F vd D:=hcD2.other hl3 oM;have hpt3:=hpt2.lr hl3 (aW dM) dM;have hbr3:=hbr2.trans (hl3.belowAt hbr2.size (λk hk=>by cases hk;exact ac));have h563:=h56.lr hl3 (aW dM) dM;obtain⟨a56,c56,hs56,-⟩:=h56.shape;subst hs56;clear f1 f2 a4 a5 hL2 hc m L hb2 s hc2 hcD2 hpt2 hbr2 a2 b5 h56 mo;generalize aX (R.getD k []) (D.getD (D.length - 1) [])=A at *;have hR2:R.length - 1<=100000:=oM;have hD2:D.length - 1<=100000:=oM;by_cases Y:R.length - 1 - (D.length - 1)<=k
      ·obtain⟨r,so⟩:=mo2.out Y;have ag:(0:Int)<=(k:Int) - (((R.length - 1:Nat):Int) - ((D.length - 1:Nat):Int)):=oM;obtain⟨j,hj⟩:∃j,j=k - (R.length - 1 - (D.length - 1)):=⟨_,rfl⟩;have be:(k:Int) - (((R.length - 1:Nat):Int) - ((D.length - 1:Nat):Int))=(j:Int):=oM;replace hj:=zH hj
       go_upto_region 15 with (fail)
       have b0:((sD D R k).set k A).length=R.length-1:=by simpa using al
       have ad:j<D.length:=oM;rw[<-hj.out]at r so;obtain⟨vj,bj,M,X⟩:=hcD3.get (i:=j) ad;obtain⟨W3,hW3⟩:∃W3,W3=W2.setCell ⟨g,k,none⟩ (.slice a56 A.length c56):=⟨_,rfl⟩;rw[<-hW3]at hc3 hcD3 hpt3 hbr3 h563 M X ⊢;have hkT3:k<((sD D R k).set k A).length:=oM;have hck3:W3.cell? ⟨g,k,none⟩=some (.slice a56 A.length c56):=hc3.b.at1 k _ (by rw[List.getElem?_set,if_pos rfl,if_pos (by have:=hc3.l;simp at this;omega)]);have hgl3:g<W3.heap.size:=hc3.b.lt;have hgdl3:F<W3.heap.size:=hcD3.b.lt;have e1:∀W,Below W3.heap.size W3 W->W.cell? ⟨g,k,none⟩=some (.slice a56 A.length c56):=λW h=>by rw[h.cell hgl3];exact hck3
       have e2:∀W,Below W3.heap.size W3 W->W.cell? ⟨F,j,none⟩=some vj:=λW h=>by rw[h.cell hgdl3];exact X
       generalize hvv:Value.slice a56 A.length c56=vv at *;clear hW3 hl3 z hf hck3 X ag hvv;rw[if_pos Y,<-hj.out]at d;refine aC mixed (none) (0) (fK.none) [.eq (.slice (some ⟨g,0,none⟩) (R.length-1) R0.length),.eq (.int .i64 k),.eq (.slice (some ⟨g,0,none⟩) (R.length-1) R0.length),.eq (.int .i64 k),.eq (.pointer (some ⟨g,0+k*1,none⟩)),.eq (vv),.eq (vt),.eq (.slice (some ⟨F,0,none⟩) D.length D.length),.eq (.int .i64 j),.eq (.pointer (some ⟨F,0+j*1,none⟩)),.eq (vj),.poly dM dM ((aX (R.getD (R.length-1) []) (D.getD j []))),.poly dM dM ((gH A (aX (R.getD (R.length-1) []) (D.getD j [])))),.eq (.pointer (some ⟨g,0+k*1,none⟩))] [66,67,68,69,70,71,72,73,74,75,76,77,78,79] rfl rfl rfl rfl ⟨λ_ _ a _ _ _=>xM rfl (a 10 rfl),λ_ _ a _ _ _=>xM rfl (a 12 rfl),λ_ _ a _ _ _=>xM rfl (a 10 rfl),λ_ _ a _ _ _=>xM rfl (a 12 rfl),λ_ _ _ _ _ e=>pI rfl Tryz.underlying75 g 0 k (C) (e.1 rfl) (e.2.1 rfl),?_,λ_ _ a _ _ _=>xM rfl (a 11 rfl),λ_ _ a _ _ _=>xM rfl (a 8 rfl),λ_ _ a _ _ _=>xM rfl (a 13 rfl),λ_ _ _ _ _ e=>pI rfl Tryz.underlying75 F 0 j (ad) (e.1 rfl) (e.2.1 rfl),?_,λA _ _ _ hS he=>have hb:=hS rfl;have h72:=eT 72 (he.1 rfl);have h76:=eT 76 (he.2.1 rfl);have hf0:=eF A 54;cP (f:=54) (args:=#[vt,vj]) (ze _ _ _ _ _ (hpt3.on hb) (M.on hb) r.kp r.kq r.ko r.kl.1 r.kl.2),?_,λ_ _ _ _ _ e=>pI rfl Tryz.underlying75 g 0 k (C) (e.1 rfl) (e.2.1 rfl),trivial⟩ ?_
       ·intro A w1 hA hL hS he;have h70:=eT 70 (he.1 rfl);refine ae rfl ?_;have c0:=e1 w1 hL.below;exact aB rfl rfl gZ
       ·intro A w1 hA hL hS he;have h75:=eT 75 (he.1 rfl);refine ae rfl ?_;have c0:=e2 w1 hL.below;exact aB rfl rfl gZ
       ·intro A w1 hA hL hS he;have hb:=hS rfl;have h71:=eT 71 (he.1 rfl);obtain⟨v77,h77,f77⟩:=fT 77 (he.2.1 rfl);have hf0:=eF A 74;exact cP (f:=74) (args:=#[vv,v77]) (Gx _ _ _ _ _ (h563.on hb) f77 so.kp so.kq so.kl.1 so.kl.2 so.kv.1 so.kv.2)
       ·intro W5 hL5;have hb5:=hL5.below;simp only[aT,af.eq,af.poly,af.of,lZ];rintro v77 - v78 h78;generalize gH A (aX (R.getD (R.length - 1) []) (D.getD j []))=A2 at h78 d;go_frame;have hc5:=hc3.on hb5;have hcD5:=hcD3.on hb5;have hpt5:=hpt3.on hb5;have hbr5:=hbr3.trans (hb5.mono hbr3.size);obtain⟨vq,b6,-,z5⟩:=hc5.get (i:=k) hkT3;have hf5:=hc5.b.frozen k;obtain⟨hc6,hl6⟩:=hc5.set hkT3 h78;have hcD6:=hcD5.other hl6 oM;have hpt6:=hpt5.lr hl6 (aW dM) dM;have hbr6:=hbr5.trans (hl6.belowAt hbr5.size (λk hk=>by cases hk;exact ac));obtain⟨a78,c78,hs78,-⟩:=h78.shape;subst hs78;rw[show((sD D R k).set k A).set k A2=sD D R (k+1) by rw[d.out];simp]at hc6;clear hc3 hcD3 hpt3 hbr3 h563 M e1 e2 hL5 hc5 hcD5 hpt5 hbr5 b6 h78;go_wp2;go_roundw
        case rel=>exact⟨k+1,_,oM,nM,zH hc6,by simpa using o,zH hpt6,zH hcD6,hbr6⟩
        case measure=>simp[intOf];omega
      ·have ag:¬(0:Int)<=(k:Int)-(((R.length-1:Nat):Int)-((D.length-1:Nat):Int)):=oM;rw[if_neg Y]at d;go_wp2;go_roundw
       case rel=>exact⟨k+1,_,oM,nM,zH (by rw[d.out];exact hc3),by simpa using o,zH hpt3,zH hcD3,hbr3⟩
       case measure=>simp[intOf];omega
    ·obtain rfl:k=R.length - 1:=oM;rw[O4]at hc;have b4:=gY D R;go_wp2;go_roundg f'
     case measure=>omega
     case rel=>exact⟨fO D R,vs,by rw[b4],hc,o,a1,b2,oM,oM,m,s⟩
  ·have x:B=R:=by
    have:=G.out
    cases gk with
    | zero=>exact this.symm
    | succ f=>rw[gm,if_neg Z]at this;exact this.symm
   have an:¬((D.length-1:Nat):Int)<(R.length:Int):=oM;have a6:=hc.out.polys;rw[o]at a6;have av:=λW (hb:Below wr.heap.size wr W)=>QI _ R v W (a6.on hb) hv (by rw[<-x];exact I.out) oM (by rw[<-x];exact hl2.out);replace x:=zH x;clear G u hc m I hl2
   go_wp2_with (go_at_call 120;refine(av _ (Below.refl _ _)).mono ?_;rintro en w5 ⟨v5,rfl,hv5,hb5⟩)
   go_ret2;exact⟨_,rfl,by rw[x.out];exact hv5,s.trans (hb5.mono s.size)⟩
end Go.Proofs.YtopclbeomcggiaaGreat
end
section
namespace Q
def jN (p:List ai) (m:ai):List ai:=if m.2=0 then []else p.map λs=>mulT s m
def vM (e f:Ex):Nat->Ex
 | 0=>e
 | k+1=>(vM e f k).put k (e.get k+f.get k)
theorem K9(e f:Ex):vM e f 4=e.add f:=rfl
theorem O6(e f:Ex)(k:Nat)(h:k<4):(vM e f k).get k=e.get k:=by
 obtain rfl|rfl|rfl|rfl:k=0\/k=1\/k=2\/k=3:=oM
 all_goals rfl
theorem Yn(m g:Ex)(v:Nat)(h:v<4):(Ex.add m g).get v=m.get v+g.get v:=by
 obtain rfl|rfl|rfl|rfl:v=0\/v=1\/v=2\/v=3:=oM
 all_goals rfl
theorem bR.times{p:List ai}{m:ai}(h:bR p)(hm:m.1.nat=true):bR (jN p m):=by
 unfold jN;split
 ·exact bR.nil
 ·rename_i hz;refine⟨h.1.map λs _ t _ b=>?_,λt e=>?_⟩
  ·show(s.1.add m.1).gt (t.1.add m.1)=true;rw[Ex.add_comm s.1,Ex.add_comm t.1,Ex.gt_add];exact b
  ·obtain⟨s,d,rfl⟩:=List.mem_map.1 e;exact⟨jw (h.2 s d).1 hz,Ex.nat_add (h.2 s d).2 hm⟩
theorem QX(x:Pt){p:List ai}(h:dO p){m:ai}(hm:m.1.nat=true):ev x (jN p m)=ev x p*(m.2*wX x m.1):=by
 unfold jN;split
 ·rename_i hz;rw[hz,jh];grind
 ·induction p with
  | nil=>rw[List.map_nil,jh];grind
  | cons s p b =>
   rw[List.map_cons,kP,kP,b h.tail];simp only[mulT];rw[Mw x h.head hm];grind
end Q
namespace Go.Proofs.YtopclbeomcggiaaGreat
open Go.RowKit Q Go.WideMaps Go.Maps
theorem QY(e:Ex):(bC e).toArray.all (·.oneCell')=true:=by rw[Array.all_eq_true_iff_forall_mem];intro v hv;exact AP e v (by simpa using hv)
theorem Gy(e:Ex)(v:Nat)(hv:v<4):(bC e)[v]?=some (.int .i64 (e.get v)):=by
 obtain rfl|rfl|rfl|rfl:v=0\/v=1\/v=2\/v=3:=oM
 all_goals rfl
theorem QZ(e:Ex)(v:Nat)(hv:v<4)(x:Int):(bC e).set v (.int .i64 x)=bC (e.put v x):=by
 obtain rfl|rfl|rfl|rfl:v=0\/v=1\/v=2\/v=3:=oM
 all_goals rfl
theorem wF(vp:Value)(p:List ai)(cs:List Value)(m:ai)(w:World)(hp:ak w vp p)(hm:qf w cs m)(rp:∀t∈p,Rs t.2)(rm:Rs m.2)(Y:∀t∈p,InR (t.1.add m.1))(lp:p.length<=100000000) :
  Calls Tryz.prog 44 #[vp,.agg cs.toArray] w (aS w (jN p m)):=by
 obtain⟨ap,cp,rfl,al⟩:=hp.shape;obtain⟨r,rfl,hr⟩:=hm;have h4:=hr.len;replace rp:=zH rp;replace Y:=zH Y;obtain⟨R,hR⟩:∃R,R=jN p m:=⟨_,rfl⟩;rw[<-hR];replace hR:=zH hR
 go_enter Tryz.func44,Tryz.ntmps44
 go_upto_region 1 with (fail)
 refine jb λW hb0 B ab=>?_;go_wp2;have X:Below W.heap.size W (W.alloc (.cells #[] aJ)):=(Below.refl _ _).alloc (nL _) _;have hown0:=EX aO (w:=W) (base:=w.heap.size+1) B.lt;have S:=hb0.trans (X.mono hb0.size);have B0:=B.on X;change bV (w.heap.size+1) (W.alloc (.cells #[] 43)) _ _ at hown0;change Below w.heap.size w (W.alloc (.cells #[] 43))at S;change Blk (W.alloc (.cells #[] 43)) _ _ _ at B0;clear X B hb0;replace hp:=zH hp
 go_loopw [5,6] (λo vi wr=>∃k:Nat,vi=.int .i64 k/\k<=p.length/\Hid (m.2=0->k=0)/\Hid (bV (w.heap.size+1) wr o ((p.take k).map λs=>mulT s m))/\Hid (Blk wr w.heap.size aJ (bC m.1++r))/\Below w.heap.size w wr) (λ_ vi _=>p.length-(intOf vi).toNat)
 case atStart=>exact⟨0,rfl,oM,zH (λ_=>rfl),zH hown0,zH B0,S⟩
 case round =>
  clear hown0 B0 S ab;obtain⟨k,rfl,J,hz0,d,hB,l⟩:=hrel;by_cases Z:k<p.length
  ·have ad:(k:Int)<(p.length:Int):=oM;have F:=hB.out;have hsgn:=λW (hb:Below wr.heap.size wr W)=>zf _ _ W (hr.on (l.trans (hb.mono l.size))).rat;have C:p[k]?=some p[k]:=gE Z;generalize p[k]=s at C;obtain⟨G,I,ra,rfl,a4,a2⟩:=fB hp.out C;have a9:=a4.len
   go_upto_region 3 with (fail)
   by_cases hz:m.2=0
   ·have hk0:=hz0.out hz;have hs0:jm m.2.num=0:=by rw[hz];rfl
    rw[hs0]at hsgn;replace hk0:=zH hk0;refine aR trivial (none) (0) (fK.none) [.eq (.int .i64 k),.eq (.slice (some ⟨G,I,none⟩) p.length cp),.eq (.int .i64 p.length),.eq (.bool true),.eq (.bool true),.eq (.pointer (some ⟨w.heap.size,0+4,none⟩)),.eq (.agg (r).toArray),.ret (.int .i64 0),.eq (.bool false),.eq (.bool false)] [10,11,12,13,14,15,16,17,18,19] rfl rfl rfl rfl ⟨λ_ _ a _ _ _=>xM rfl (a 6 rfl),λ_ _ a _ _ _=>xM rfl (a 0 rfl),λA _ _ _ _ he=>have h11:=eT 11 (he.1 rfl);pZ rfl,λA _ _ _ _ he=>have h10:=eT 10 (he.1 rfl);have h12:=eT 12 (he.2.1 rfl);pZ rfl,λ_ _ _ _ _ e=>xM rfl (e.1 rfl),λ_ _ a _ _ e=>aQ rfl rfl (e.1 rfl) (EU rfl (a 3 rfl)),λ_ _ _ hL _ e=>aQ rfl rfl (e.2.1 rfl) (xL rfl (uZ (F.on hL.below)) Tryz.underlying41 (h4) (e.1 rfl)),λA _ _ _ hS he=>have hb:=hS rfl;have h14:=eT 14 (he.2.1 rfl);have h16:=eT 16 (he.1 rfl);have hf0:=eF A 67;cY (f:=67) (args:=#[.agg (r).toArray]) h14 (hsgn _ hb),λA _ _ _ _ he=>have h14:=eT 14 (he.2.1 rfl);have h17:=eT 17 (he.1 rfl);have hc0:=eC A (.int .i64 0);yZ h14 rfl,λ_ _ _ _ _ e=>pK rfl (e.1 rfl) (e.2.1 rfl),trivial⟩ ?_
    ·intro W2 hL2;simp only[aT,af.eq,af.ret,lZ];go_frame;go_wp2;go_ret;refine⟨_,rfl,?_,l.trans (hL2.below.mono l.size)⟩;have:=(d.out.on hL2.below).isSl;rw[hk0.out]at this;rw[hR.out,jN,if_pos hz];simpa using this
   ·have hs0:=sj hz;generalize jm m.2.num=sg at hs0 hsgn;have hs1:(sg != 0)=true:=by simpa using hs0
    refine aR trivial (none) (0) (fK.none) [.eq (.int .i64 k),.eq (.slice (some ⟨G,I,none⟩) p.length cp),.eq (.int .i64 p.length),.eq (.bool true),.eq (.bool true),.eq (.pointer (some ⟨w.heap.size,0+4,none⟩)),.eq (.agg (r).toArray),.ret (.int .i64 sg),.eq (.bool true),.eq (.bool true)] [10,11,12,13,14,15,16,17,18,19] rfl rfl rfl rfl ⟨λ_ _ a _ _ _=>xM rfl (a 6 rfl),λ_ _ a _ _ _=>xM rfl (a 0 rfl),λA _ _ _ _ he=>have h11:=eT 11 (he.1 rfl);pZ rfl,λA _ _ _ _ he=>have h10:=eT 10 (he.1 rfl);have h12:=eT 12 (he.2.1 rfl);pZ rfl,λ_ _ _ _ _ e=>xM rfl (e.1 rfl),λ_ _ a _ _ e=>aQ rfl rfl (e.1 rfl) (EU rfl (a 3 rfl)),λ_ _ _ hL _ e=>aQ rfl rfl (e.2.1 rfl) (xL rfl (uZ (F.on hL.below)) Tryz.underlying41 (h4) (e.1 rfl)),λA _ _ _ hS he=>have hb:=hS rfl;have h14:=eT 14 (he.2.1 rfl);have h16:=eT 16 (he.1 rfl);have hf0:=eF A 67;cY (f:=67) (args:=#[.agg (r).toArray]) h14 (hsgn _ hb),λA _ _ _ _ he=>have h14:=eT 14 (he.2.1 rfl);have h17:=eT 17 (he.1 rfl);have hc0:=eC A (.int .i64 0);yZ h14 rfl,λ_ _ _ _ _ e=>pK rfl (e.1 rfl) (e.2.1 rfl),trivial⟩ ?_
    ·intro W2 hL2;simp only[aT,af.eq,af.ret,lZ];go_frame;have hown2:=d.out.on hL2.below;have BB2:=F.on hL2.below;have hbr2:=l.trans (hL2.below.mono l.size);clear hsgn hL2 F d hB l hs0 hs1
     go_upto_region 5 with (fail)
     refine aR trivial (none) (0) (fK.none) [.eq (.slice (some ⟨G,I,none⟩) p.length cp),.eq (.int .i64 k),.eq (.pointer (some ⟨G,I+k*8,none⟩)),.eq (.pointer (some ⟨G,I+k*8,none⟩)),.eq (.agg (bC s.1).toArray),.box 36 W2.heap.size [.int .i64 0,.int .i64 0,.int .i64 0,.int .i64 0]] [22,23,24,25,26,7] rfl rfl rfl rfl ⟨λ_ _ a _ _ _=>xM rfl (a 0 rfl),λ_ _ a _ _ _=>xM rfl (a 6 rfl),λ_ _ _ _ _ e=>pI rfl Tryz.underlying27 G I k (Z) (e.1 rfl) (e.2.1 rfl),λ_ _ _ _ _ e=>ae rfl (wV rfl (e.1 rfl)),λ_ w1 _ hL _ he=>have hb:=hL.below;have u:Below w.heap.size w w1:=hbr2.trans (hb.mono hbr2.size);pL rfl (fI (a2.on u)) Tryz.underlying36 (show(bC s.1).length=4 from rfl) (he.1 rfl),?_,trivial⟩ ?_
     ·intro A w1 hA hL hS he;refine ae rfl ?_;refine nk rfl rfl ((fK.none).lr hL) hL.1.size (by generalize A.eval=ev at *;go_simp) (λ_ _ h=>h)
     ·intro W3 hL3;have hb3:=hL3.below;simp only[aT,af.eq,af.box,af.of,lZ];rintro v7 ⟨x,-,a7,rfl,B7⟩;go_frame;have hown3:=hown2.on hb3;have BB3:=BB2.on hb3;have hbr3:=hbr2.trans (hb3.mono hbr2.size);have aq:w.heap.size<x:=by have:=BB2.lt;omega
      clear hL3 hb3 hown2 BB2
      go_upto_region 6 with (refine az rfl _ (.tmp 7) (.tmp 26) rfl _ _ _ _ rfl rfl B7 rfl kM (QY _) ?_;intro W4 R4 gr4)
      have hl4:Lr (some x) 36 W3 W4:=⟨gr4,λk J=>by cases J;exact⟨B7.noOther,R4.noOther⟩⟩
      have a1:u5.ownBlock≠some x:=by intro h;have h1:=(hown3.okr x h).2;exact absurd (h1 _ _ _ B7) dM
      have hown4:=hown3.lr hl4 (aW dM) (.inr a1);have BB4:=BB3.lr hl4 (by simp;omega);have hbr4:=hbr3.trans (hl4.belowAt hbr3.size (λk J=>by cases J;omega));have a6:Hid (Blk W4 x 36 (bC (vM s.1 m.1 0))):=zH (by simpa[vM]using R4);clear hl4 gr4 B7 hown3 BB3 hbr3 R4 a7;go_wp2
      go_loopw [8] (λi wr=>∃j:Nat,j<=4/\i=.int .i64 j/\Hid (Blk wr x 36 (bC (vM s.1 m.1 j)))/\Hid (Blk wr w.heap.size aJ (bC m.1++r))/\Hid (bV (w.heap.size+1) wr u5 ((p.take k).map λs=>mulT s m))/\Below w.heap.size w wr) (λi _=>4-(intOf i).toNat)
      case atStart=>exact⟨0,oM,rfl,a6,zH BB4,zH hown4,hbr4⟩
      case round =>
       clear a6 BB4 hown4 hbr4 hbr2;obtain⟨j,hj,rfl,hX,hB,d,l⟩:=hrel;have BX:=hX.out;have F:=hB.out;have y:=Y.out s (List.mem_of_getElem? C);by_cases hj4:j<4
       ·have ac:(j:Int)<4:=oM;have N:=Gy (vM s.1 m.1 j) j hj4;rw[O6 _ _ _ hj4]at N;have a5:=QZ (vM s.1 m.1 j) j hj4 (s.1.get j+m.1.get j);have ao:IntKind.i64.wrap (s.1.get j+m.1.get j)=s.1.get j+m.1.get j:=mE (by rw[<-Yn _ _ j hj4];exact Ex.get_bounds y hj4);have L:=qh m.1 j hj4 r;have f1:∀M,Below wr.heap.size wr M->M.cell? ⟨x,j,none⟩=some (.int .i64 (s.1.get j)):=λM h=>(BX.on h).at1 j _ N;have f2:∀M,Below wr.heap.size wr M->M.cell? ⟨w.heap.size,j,none⟩=some (.int .i64 (m.1.get j)):=λM h=>(F.on h).at1 j _ L;have q:vM s.1 m.1 (j+1)=Ex.put (vM s.1 m.1 j) j (s.1.get j+m.1.get j):=rfl;generalize s.1.get j=a at *;generalize m.1.get j=b at *;replace q:=zH q;clear L y
        go_upto_region 9 with (fail)
        refine aC mixed (none) (0) (fK.none) [.eq (.int .i64 j),.eq (.pointer (some ⟨x,j,none⟩)),.eq (.int .i64 a),.eq (.int .i64 j),.eq (.pointer (some ⟨w.heap.size,0,none⟩)),.eq (.pointer (some ⟨w.heap.size,j,none⟩)),.eq (.int .i64 b),.eq (.int .i64 (a+b)),.eq (.pointer (some ⟨x,j,none⟩))] [31,32,33,34,35,36,37,38,39] rfl rfl rfl rfl ⟨λ_ _ a _ _ _=>xM rfl (a 8 rfl),λA _ hA _ _ he=>have h7:A.eval (.tmp 7)=.pointer (some ⟨x,0,none⟩):=hA 7 rfl;have h31:=eT 31 (he.1 rfl);pZ rfl,?_,λ_ _ a _ _ _=>xM rfl (a 8 rfl),λ_ _ a _ _ _=>ae rfl (wV rfl (a 3 rfl)),λA _ _ _ _ he=>have h35:=eT 35 (he.1 rfl);have h34:=eT 34 (he.2.1 rfl);pZ rfl,?_,λA _ _ _ _ he=>have h33:=eT 33 (he.1 rfl);have h37:=eT 37 (he.2.1 rfl);pZ rfl,λA _ hA _ _ he=>have h7:A.eval (.tmp 7)=.pointer (some ⟨x,0,none⟩):=hA 7 rfl;have h31:=eT 31 (he.1 rfl);pZ rfl,trivial⟩ ?_
        ·intro A w1 hA hL hS he;have h32:=eT 32 (he.1 rfl);refine ae rfl ?_;have c0:=f1 w1 hL.below;exact aB rfl rfl gZ
        ·intro A w1 hA hL hS he;have h36:=eT 36 (he.1 rfl);refine ae rfl ?_;have c0:=f2 w1 hL.below;exact aB rfl rfl gZ
        ·intro W2 hL2;have hb2:=hL2.below;simp only[aT,af.eq,lZ];go_frame;have B2:=BX.on hb2;have z:=B2.at1 j _ N;have hf:=B2.frozen j;have hown2:=d.out.on hb2;have BB2:=F.on hb2;have hbr2:=l.trans (hb2.mono l.size);have hl3:=aY (j:=j) B2 (.int .i64 (a+b));have B3:=B2.set j (.int .i64 (a+b));rw[a5]at B3;clear f1 f2 hL2;go_wp2;go_roundw
         case rel=>exact⟨j+1,oM,nM,zH (by rw[q.out];exact B3),zH (BB2.lr hl3 (by simp;omega)),zH (hown2.lr hl3 (aW dM) (.inr a1)),hbr2.trans (hl3.belowAt hbr2.size (λk J=>by cases J;omega))⟩
         case measure=>simp[intOf];omega
       ·obtain rfl:j=4:=oM;rw[K9]at BX;have a8:Rs s.2:=rp.out s (List.mem_of_getElem? C);have aa:=zH (I8 (λs=>mulT s m) C);have an:((p.take k).map λs=>mulT s m).length<=100000000:=by simp;omega
        replace d:=d.out;have n:∀k,u5.ownBlock=some k->w.heap.size<=k:=λk J=>by have:=(d.base_le k J).1;omega
        have D:some w.heap.size≠u5.ownBlock:=λh=>by have:=(d.base_le _ h.symm).1;omega
        have a3:some x≠u5.ownBlock:=λh=>a1 h.symm;obtain⟨E,hE⟩:∃E,E=s.1.add m.1:=⟨_,rfl⟩;have a0:mulT s m=(E,s.2*m.2):=by rw[hE];rfl
        rw[<-hE]at BX;replace a0:=zH a0;clear hE y
        go_upto_region 10 with (fail)
        refine aC mixed (u5.ownBlock) (aJ) (d.okr) [.eq (u5),.eq (.agg (bC E).toArray),.eq (.slice (some ⟨G,I,none⟩) p.length cp),.eq (.int .i64 k),.eq (.pointer (some ⟨G,I+k*8,none⟩)),.eq (.pointer (some ⟨G,I+k*8+4,none⟩)),.eq (.agg (ra).toArray),.eq (.pointer (some ⟨w.heap.size,0+4,none⟩)),.eq (.agg (r).toArray),.rat dM ((s.2*m.2)),.term dM ((E),(s.2*m.2)),.new1 aO fw ((E,s.2*m.2)),.row aO (w.heap.size+1) wr.heap.size (((p.take k).map λs=>mulT s m)++[(E,s.2*m.2)])] [40,41,42,43,44,45,46,47,48,49,50,51,52] rfl rfl rfl rfl ⟨λ_ _ a _ _ _=>xM rfl (a 5 rfl),λ_ _ a hL _ _=>pL rfl ((BX.lr hL a3).cells.range) Tryz.underlying36 (show(bC E).length=4 from rfl) (a 7 rfl),λ_ _ a _ _ _=>xM rfl (a 0 rfl),λ_ _ a _ _ _=>xM rfl (a 6 rfl),λ_ _ _ _ _ e=>pI rfl Tryz.underlying27 G I k (Z) (e.1 rfl) (e.2.1 rfl),λ_ _ _ _ _ e=>ae rfl (EU rfl (e.1 rfl)),λ_ w1 _ hL _ he=>have u:Below w.heap.size w w1:=l.trans (hL.belowAt l.size n);pL rfl (gU (a2.on u)) Tryz.underlying41 (a9) (he.1 rfl),λ_ _ a _ _ _=>ae rfl (EU rfl (a 3 rfl)),λ_ _ _ hL _ e=>pL rfl (uZ (F.lr hL D)) Tryz.underlying41 (h4) (e.1 rfl),λA w1 _ hL hS he=>have hb:=hS rfl;have u:Below w.heap.size w w1:=l.trans (hL.belowAt l.size n);have h46:=eT 46 (he.1 rfl);have h48:=eT 48 (he.2.1 rfl);have hf0:=eF A 75;cP (f:=75) (args:=#[.agg (ra).toArray,.agg (r).toArray]) (QN _ _ _ _ _ (a4.on u).rat (hr.on u).rat a8 rm),?_,?_,?_,trivial⟩ ?_
        ·intro A w1 hA hL hS he;have h41:=eT 41 (he.1 rfl);obtain⟨v49,h49,f49⟩:=fT 49 (he.2.1 rfl);refine ae rfl ?_;obtain⟨n_,a_,k_,c_,n',a',k',c',rfl⟩:=fE f49;exact iM (c:=.agg (_++[.bool n_,.slice a_ k_ c_,.bool n',.slice a' k' c']).toArray) rfl rfl (Below.refl _ _) ⟨_,rfl,⟨_,rfl,f49.cellsC⟩⟩ (oK rfl (by simp only[List.map_toArray,List.map_cons,List.map_nil,h41,h49];exact uA _ _ _ rfl))
        ·intro A w1 hA hL hS he;obtain⟨v50,h50,f50⟩:=fT 50 (he.1 rfl);refine ae rfl ?_;obtain⟨c50,rfl,e50⟩:=f50;refine fo rfl rfl ((d.okr).lr hL) (e:=aO) (t:=(E,s.2*m.2)) e50 (bu rfl ?_) (λ_ _ h=>h);simp only[List.map_toArray,List.map_cons,List.map_nil,h50];exact bK _ _ (aO.len e50)
        ·intro A w1 hA hL hS he;have hb:=hS rfl;have h40:=eT 40 (he.1 rfl);obtain⟨v51,h51,f51⟩:=fT 51 (he.2.1 rfl);exact ae rfl (dL rfl rfl rfl Tryz.underlying27 bG h40 h51 (d.on hb) rfl rfl (dV f51) (by simp only[List.length_cons,List.length_nil];omega) ((F.lr hL D).lt) hL.1.size (λ_ _ h1 h2=>⟨h1,h2⟩))
        ·intro W5 hL5;simp only[aT,af.eq,af.rat,af.term,af.new1,af.row,af.asPure,af.of,af.fragile,lZ];rintro v49 - v50 - v51 - v52 ⟨hown5,ag⟩;go_frame;have hbW5:=l.trans (hL5.belowAt l.size n);have BB5:=F.lr hL5 D;go_wp2;go_roundw
         case measure=>simp[intOf];omega
         case rel=>exact⟨k+1,nM,oM,zH (λh=>absurd h hz),zH (by rw[aa.out,a0.out];exact hown5),zH BB5,hbW5⟩
  ·obtain rfl:k=p.length:=oM;rw[tL (nL _)]at d;go_wp2;go_ret;refine⟨_,rfl,?_,l⟩;rw[hR.out,jN];split
   ·rename_i h;have h1:=hz0.out h;have h2:p=[]:=List.eq_nil_of_length_eq_zero h1;subst h2;exact d.out.isSl
   ·exact d.out.isSl
end Go.Proofs.YtopclbeomcggiaaGreat
end
section
namespace Q
def X8:List ai->List ai->Bool
 | _,[]=>true
 | [],_::_=>false
 | s::_,t::_=>s.1.gt t.1
def Yo:List ai->List ai->Bool
 | [],_=>true
 | _::_,[]=>false
 | s::_,t::_=>t.1.gt s.1
theorem Q4{P Q:List ai}(h:X8 P Q=true)(d:P≠[]\/Q≠[]):∃s b,P=s::b/\dD P Q=s::dD b Q:=by
 cases Q with
 | nil=>cases P with
  | nil=>simp at d
  | cons s b=>exact⟨s,b,rfl,by rw[Q.mergeP_nil,Q.mergeP_nil]⟩
 | cons t e=>cases P with
  | nil=>cases h
  | cons s b=>exact⟨s,b,rfl,Go.Proofs.YtopclbeomcggiaaGreat.mergeP_gt h⟩
theorem O7{P Q:List ai}(h:X8 P Q=false):∃t b,Q=t::b:=by
 cases Q with
 | nil=>cases P<;>cases h
 | cons t b=>exact⟨t,b,rfl⟩
theorem Q5{P Q2:List ai}{t:ai}(h:Yo P (t::Q2)=true):dD P (t::Q2)=t::dD P Q2:=by
 cases P with
 | nil=>rw[nK,nK]
 | cons s b=>exact Go.Proofs.YtopclbeomcggiaaGreat.mergeP_lt h
theorem O8{P Q2:List ai}{t:ai}(d:X8 P (t::Q2)=false)(h:Yo P (t::Q2)=false):∃s b,P=s::b/\s.1=t.1/\dD P (t::Q2)=if s.2+t.2=0 then dD b Q2 else(s.1,s.2+t.2)::dD b Q2:=by
 cases P with
 | nil=>cases h
 | cons s b =>
  have he:s.1=t.1:=by
   rcases Classical.em (s.1=t.1)with e|e
   ·exact e
   ·have:=Ex.gt_total (show s.1.gt t.1=false from d) e;rw[show t.1.gt s.1=false from h]at this;cases this
  exact⟨s,b,rfl,he,Go.Proofs.YtopclbeomcggiaaGreat.mergeP_eq' he⟩
end Q
namespace Go.Proofs.YtopclbeomcggiaaGreat
open Go.RowKit Q Go.WideMaps Go.Maps
theorem Ja(vp vq:Value)(p q:List ai)(w:World)(hp:ak w vp p)(hq:ak w vq q)(rp:∀t∈p,Rs t.2)(rq:∀t∈q,Rs t.2)(lp:p.length<=100000000)(lq:q.length<=100000000) :
  Calls Tryz.prog 39 #[vp,vq] w (wh w (dD p q)):=by
 obtain⟨ap,cp,rfl,al⟩:=hp.shape;obtain⟨aq,cq,rfl,an⟩:=hq.shape;replace rp:=zH rp;replace rq:=zH rq;obtain⟨R,hR⟩:∃R,R=dD p q:=⟨_,rfl⟩;rw[<-hR];replace hR:=zH hR
 go_enter Tryz.func39,Tryz.ntmps39
 go_wp2;have hown0:=gX aO w;have hb0:Below w.heap.size w (w.alloc (.cells #[] aJ)):=(Below.refl _ _).alloc (nL _) _;change bV w.heap.size (w.alloc (.cells #[] 43)) _ _ at hown0;change Below w.heap.size w (w.alloc (.cells #[] 43))at hb0;replace hp:=zH hp;replace hq:=zH hq
 go_loopw [5,6,7] (λo vi vj wr=>∃(i j:Nat)(M:List ai),vi=.int .i64 i/\vj=.int .i64 j/\i<=p.length/\j<=q.length/\Hid (bV w.heap.size wr o M)/\Hid (R=M++dD (p.drop i) (q.drop j))/\M.length<=i+j/\Below w.heap.size w wr) (λ_ vi vj _=>p.length+q.length-((intOf vi).toNat+(intOf vj).toNat))
 case atStart=>exact⟨0,0,[],rfl,rfl,oM,oM,zH hown0,zH (by simpa using hR.out),sM,hb0⟩
 case round =>
  clear hown0 hb0;obtain⟨i,j,M,rfl,rfl,hi,hj,m,hR,hM,b⟩:=hrel;by_cases hd:i<p.length\/j<q.length
  ·have N:p.drop i≠[]\/q.drop j≠[]:=by
    rcases hd with h|h
    ·left;intro e;have:=congrArg List.length e;simp at this;omega
    ·right;intro e;have:=congrArg List.length e;simp at this;omega
   have hd1:¬i<p.length->j<q.length:=λh=>oM;replace N:=zH N;clear hd
   go_upto_region 2 with (fail)
   go_cut [10,11,12,13,14,15,16,17,18,19] (λ_ _ _ _ _ _ _ _ _ v19 wc=>v19=.bool true/\wr=wc)
   case first =>
    by_cases r:i<p.length
    ·have g1:(i:Int)<(p.length:Int):=oM;go_wp2;go_meet
     case rel=>exact⟨rfl,rfl⟩
    ·have g1:¬(i:Int)<(p.length:Int):=oM;have g2:(j:Int)<(q.length:Int):=by have:=hd1 r;omega
     go_wp2;go_meet
     case rel=>exact⟨rfl,rfl⟩
   case rest =>
   obtain⟨rfl,rfl⟩:=hcut
   go_upto_region 3 with (fail)
   obtain⟨g1,hg1⟩:∃g,g=X8 (p.drop i) (q.drop j):=⟨_,rfl⟩;replace hg1:=zH hg1
   go_cut [20,21,22,23,24,25,26,27,28,29,30,31,32,33,34,35,36,37,38,39,40,41,42] (λ_ _ _ _ _ _ _ _ _ _ _ _ _ _ _ _ _ _ _ _ _ _ v42 wc=>v42=.bool g1/\Below wr.heap.size wr wc)
   case first =>
    clear m hR;by_cases D:j<q.length
    ·have e1:((j:Int)==(q.length:Int))=false:=by simp;omega
     have e2:¬(j:Int)=(q.length:Int):=oM;by_cases r:i<p.length
     ·have e3:(i:Int)<(p.length:Int):=oM;have z:p[i]?=some p[i]:=gE r;have S:q[j]?=some q[j]:=gE D;have hg:g1=p[i].1.gt q[j].1:=by rw[hg1.out,List.drop_eq_getElem_cons r,List.drop_eq_getElem_cons D];rfl
      generalize p[i]=s at z hg;generalize q[j]=t at S hg;obtain⟨u,y,ra,rfl,I,C⟩:=fB hp.out z;obtain⟨B,oq,rb,rfl,Y,L⟩:=fB hq.out S;refine aC mixed (none) (0) (fK.none) [.eq (.int .i64 j),.eq (.slice (some ⟨B,oq,none⟩) q.length cq),.eq (.int .i64 q.length),.eq (.bool false),.eq (.bool false),.eq (.int .i64 i),.eq (.slice (some ⟨u,y,none⟩) p.length cp),.eq (.int .i64 p.length),.eq (.bool true),.eq (.bool true),.eq (.slice (some ⟨u,y,none⟩) p.length cp),.eq (.int .i64 i),.eq (.pointer (some ⟨u,y+i*8,none⟩)),.eq (.pointer (some ⟨u,y+i*8,none⟩)),.eq (.agg (bC s.1).toArray),.eq (.slice (some ⟨B,oq,none⟩) q.length cq),.eq (.int .i64 j),.eq (.pointer (some ⟨B,oq+j*8,none⟩)),.eq (.pointer (some ⟨B,oq+j*8,none⟩)),.eq (.agg (bC t.1).toArray),.ret (.bool (s.1.gt t.1)),.eq (.bool (s.1.gt t.1)),.eq (.bool (s.1.gt t.1))] [20,21,22,23,24,25,26,27,28,29,30,31,32,33,34,35,36,37,38,39,40,41,42] rfl rfl rfl rfl ⟨λ_ _ a _ _ _=>xM rfl (a 7 rfl),λ_ _ a _ _ _=>xM rfl (a 1 rfl),λA _ _ _ _ he=>have h21:=eT 21 (he.1 rfl);pZ rfl,λA _ _ _ _ he=>have h20:=eT 20 (he.1 rfl);have h22:=eT 22 (he.2.1 rfl);pZ rfl,λ_ _ _ _ _ e=>xM rfl (e.1 rfl),λ_ _ a _ _ e=>yM (e.1 rfl) rfl (a 6 rfl),λ_ _ a _ _ e=>yM (e.1 rfl) rfl (a 0 rfl),λA _ _ _ _ he=>have h24:=eT 24 (he.2.1 rfl);have h26:=eT 26 (he.1 rfl);yZ h24 rfl,λA _ _ _ _ he=>have h24:=eT 24 (he.2.2.1 rfl);have h25:=eT 25 (he.1 rfl);have h27:=eT 27 (he.2.1 rfl);yZ h24 rfl,λ_ _ _ _ _ e=>yM (e.2.1 rfl) rfl (e.1 rfl),λ_ _ a _ _ e=>yM (e.1 rfl) rfl (a 0 rfl),λ_ _ a _ _ e=>yM (e.1 rfl) rfl (a 6 rfl),λ_ _ _ _ _ e=>aQ rfl rfl (e.2.2.1 rfl) (xI rfl Tryz.underlying27 u y i (r) (e.1 rfl) (e.2.1 rfl)),λ_ _ _ _ _ e=>aQ rfl rfl (e.2.1 rfl) (wV rfl (e.1 rfl)),λ_ w1 _ hL _ he=>have hb:=hL.below;have d:Below w.heap.size w w1:=b.trans (hb.mono b.size);aQ rfl rfl (he.2.1 rfl) (xL rfl (fI (C.on d)) Tryz.underlying36 (show(bC s.1).length=4 from rfl) (he.1 rfl)),λ_ _ a _ _ e=>yM (e.1 rfl) rfl (a 1 rfl),λ_ _ a _ _ e=>yM (e.1 rfl) rfl (a 7 rfl),λ_ _ _ _ _ e=>aQ rfl rfl (e.2.2.1 rfl) (xI rfl Tryz.underlying27 B oq j (D) (e.1 rfl) (e.2.1 rfl)),λ_ _ _ _ _ e=>aQ rfl rfl (e.2.1 rfl) (wV rfl (e.1 rfl)),λ_ w1 _ hL _ he=>have hb:=hL.below;have d:Below w.heap.size w w1:=b.trans (hb.mono b.size);aQ rfl rfl (he.2.1 rfl) (xL rfl (fI (L.on d)) Tryz.underlying36 (show(bC t.1).length=4 from rfl) (he.1 rfl)),λA _ _ _ hS he=>have hb:=hS rfl;have h29:=eT 29 (he.2.2.1 rfl);have h34:=eT 34 (he.1 rfl);have h39:=eT 39 (he.2.1 rfl);have hf0:=eF A 68;cY (f:=68) (args:=#[.agg (bC s.1).toArray,.agg (bC t.1).toArray]) h29 (uC s.1 t.1 _),λ_ _ _ _ _ e=>aQ rfl rfl (e.2.2.1 rfl) (ji rfl (e.1 rfl) rfl (e.2.1 rfl)),λ_ _ _ _ _ e=>pK rfl (e.1 rfl) (e.2.1 rfl),trivial⟩ ?_
      ·intro W2 hL2;simp only[aT,af.eq,af.ret,lZ];go_frame;go_wp2;go_meet
       case rel=>exact⟨by rw[hg],hL2.below⟩
     ·have e3:¬(i:Int)<(p.length:Int):=oM;have hg:g1=false:=by rw[hg1.out,List.drop_of_length_le oM,List.drop_eq_getElem_cons D];rfl
      refine aC mixed (none) (0) (fK.none) [.eq (.int .i64 j),.eq (.slice aq q.length cq),.eq (.int .i64 q.length),.eq (.bool false),.eq (.bool false),.eq (.int .i64 i),.eq (.slice ap p.length cp),.eq (.int .i64 p.length),.eq (.bool false),.eq (.bool false),.eq undef,.eq undef,.eq undef,.eq undef,.eq undef,.eq undef,.eq undef,.eq undef,.eq undef,.eq undef,.eq undef,.eq (.bool false),.eq (.bool false)] [20,21,22,23,24,25,26,27,28,29,30,31,32,33,34,35,36,37,38,39,40,41,42] rfl rfl rfl rfl ⟨λ_ _ a _ _ _=>xM rfl (a 7 rfl),λ_ _ a _ _ _=>xM rfl (a 1 rfl),λA _ _ _ _ he=>have h21:=eT 21 (he.1 rfl);pZ rfl,λA _ _ _ _ he=>have h20:=eT 20 (he.1 rfl);have h22:=eT 22 (he.2.1 rfl);pZ rfl,λ_ _ _ _ _ e=>xM rfl (e.1 rfl),λ_ _ a _ _ e=>yM (e.1 rfl) rfl (a 6 rfl),λ_ _ a _ _ e=>yM (e.1 rfl) rfl (a 0 rfl),λA _ _ _ _ he=>have h24:=eT 24 (he.2.1 rfl);have h26:=eT 26 (he.1 rfl);yZ h24 rfl,λA _ _ _ _ he=>have h24:=eT 24 (he.2.2.1 rfl);have h25:=eT 25 (he.1 rfl);have h27:=eT 27 (he.2.1 rfl);yZ h24 rfl,λ_ _ _ _ _ e=>yM (e.2.1 rfl) rfl (e.1 rfl),λ_ _ _ _ _ e=>nO false (e.1 rfl),λ_ _ _ _ _ e=>nO false (e.1 rfl),λ_ _ _ _ _ e=>nO false (e.2.2.1 rfl),λ_ _ _ _ _ e=>nO false (e.2.1 rfl),λ_ _ _ _ _ e=>nO false (e.2.1 rfl),λ_ _ _ _ _ e=>nO false (e.1 rfl),λ_ _ _ _ _ e=>nO false (e.1 rfl),λ_ _ _ _ _ e=>nO false (e.2.2.1 rfl),λ_ _ _ _ _ e=>nO false (e.2.1 rfl),λ_ _ _ _ _ e=>nO false (e.2.1 rfl),λ_ _ _ _ _ e=>nO false (e.2.2.1 rfl),λ_ _ _ _ _ e=>aQ rfl rfl (e.2.2.1 rfl) (ji rfl (e.1 rfl) rfl rfl),λ_ _ _ _ _ e=>pK rfl (e.1 rfl) (e.2.1 rfl),trivial⟩ ?_
      ·intro W2 hL2;simp only[aT,af.eq,af.ret,lZ];go_frame;go_wp2;go_meet
       case rel=>exact⟨by rw[hg],hL2.below⟩
    ·have e2:(j:Int)=(q.length:Int):=oM;have e1:((j:Int)==(q.length:Int))=true:=by simp;omega
     have hg:g1=true:=by rw[hg1.out,List.drop_of_length_le (l:=q) oM];rfl
     refine aC mixed (none) (0) (fK.none) [.eq (.int .i64 j),.eq (.slice aq q.length cq),.eq (.int .i64 q.length),.eq (.bool true),.eq (.bool true),.eq undef,.eq undef,.eq undef,.eq undef,.eq undef,.eq undef,.eq undef,.eq undef,.eq undef,.eq undef,.eq undef,.eq undef,.eq undef,.eq undef,.eq undef,.eq undef,.eq undef,.eq (.bool true)] [20,21,22,23,24,25,26,27,28,29,30,31,32,33,34,35,36,37,38,39,40,41,42] rfl rfl rfl rfl ⟨λ_ _ a _ _ _=>xM rfl (a 7 rfl),λ_ _ a _ _ _=>xM rfl (a 1 rfl),λA _ _ _ _ he=>have h21:=eT 21 (he.1 rfl);pZ rfl,λA _ _ _ _ he=>have h20:=eT 20 (he.1 rfl);have h22:=eT 22 (he.2.1 rfl);pZ rfl,λ_ _ _ _ _ e=>xM rfl (e.1 rfl),λ_ _ _ _ _ e=>nO true (e.1 rfl),λ_ _ _ _ _ e=>nO true (e.1 rfl),λ_ _ _ _ _ e=>nO true (e.2.1 rfl),λ_ _ _ _ _ e=>nO true (e.2.2.1 rfl),λ_ _ _ _ _ e=>nO true (e.2.1 rfl),λ_ _ _ _ _ e=>gW rfl rfl (e.1 rfl) rfl,λ_ _ _ _ _ e=>gW rfl rfl (e.1 rfl) rfl,λ_ _ _ _ _ e=>gW rfl rfl (e.2.2.1 rfl) rfl,λ_ _ _ _ _ e=>gW rfl rfl (e.2.1 rfl) rfl,λ_ _ _ _ _ e=>gW rfl rfl (e.2.1 rfl) rfl,λ_ _ _ _ _ e=>gW rfl rfl (e.1 rfl) rfl,λ_ _ _ _ _ e=>gW rfl rfl (e.1 rfl) rfl,λ_ _ _ _ _ e=>gW rfl rfl (e.2.2.1 rfl) rfl,λ_ _ _ _ _ e=>gW rfl rfl (e.2.1 rfl) rfl,λ_ _ _ _ _ e=>gW rfl rfl (e.2.1 rfl) rfl,λ_ _ _ _ _ e=>gW rfl rfl (e.2.2.1 rfl) rfl,λ_ _ _ _ _ e=>nO true (e.2.2.1 rfl),λ_ _ _ _ _ e=>ae rfl (ji rfl (e.1 rfl) rfl rfl),trivial⟩ ?_
     ·intro W2 hL2;simp only[aT,af.eq,af.ret,lZ];go_frame;go_wp2;go_meet
      case rel=>exact⟨by rw[hg],hL2.below⟩
   case rest =>
    obtain⟨rfl,G⟩:=hcut;replace b:=b.trans (G.mono b.size);replace m:=zH (m.out.on G);clear G hd1;cases g1
    ·obtain⟨t,Q2,hQ⟩:=O7 hg1.out.symm;obtain⟨hq1,S,D⟩:=nu hQ;rw[hQ]at hg1 hR;have ad:(j:Int)<(q.length:Int):=oM;obtain⟨B,oq,rb,rfl,Y,L⟩:=fB hq.out S;have a4:=Y.len;clear N
     go_upto_region 6 with (fail)
     obtain⟨g2,hg2⟩:∃g,g=Yo (p.drop i) (t::Q2):=⟨_,rfl⟩;replace hg2:=zH hg2;replace hQ:=zH hQ;replace hq1:=zH hq1
     go_cut [52,53,54,55,56,57,58,59,60,61,62,63,64,65,66,67,68] (λ_ _ _ _ _ _ _ _ _ _ _ _ _ _ _ _ v68 wd=>v68=.bool g2/\Below wc.heap.size wc wd)
     case first =>
      clear m hR;by_cases r:i<p.length
      ·have e1:((i:Int)==(p.length:Int))=false:=by simp;omega
       have e2:¬(i:Int)=(p.length:Int):=oM;have z:p[i]?=some p[i]:=gE r;have hg:g2=t.1.gt p[i].1:=by rw[hg2.out,List.drop_eq_getElem_cons r];rfl
       generalize p[i]=s at z hg;obtain⟨u,y,ra,rfl,I,C⟩:=fB hp.out z;refine aC mixed (none) (0) (fK.none) [.eq (.int .i64 i),.eq (.slice (some ⟨u,y,none⟩) p.length cp),.eq (.int .i64 p.length),.eq (.bool false),.eq (.bool false),.eq (.slice (some ⟨B,oq,none⟩) q.length cq),.eq (.int .i64 j),.eq (.pointer (some ⟨B,oq+j*8,none⟩)),.eq (.pointer (some ⟨B,oq+j*8,none⟩)),.eq (.agg (bC t.1).toArray),.eq (.slice (some ⟨u,y,none⟩) p.length cp),.eq (.int .i64 i),.eq (.pointer (some ⟨u,y+i*8,none⟩)),.eq (.pointer (some ⟨u,y+i*8,none⟩)),.eq (.agg (bC s.1).toArray),.ret (.bool (t.1.gt s.1)),.eq (.bool (t.1.gt s.1))] [52,53,54,55,56,57,58,59,60,61,62,63,64,65,66,67,68] rfl rfl rfl rfl ⟨λ_ _ a _ _ _=>xM rfl (a 6 rfl),λ_ _ a _ _ _=>xM rfl (a 0 rfl),λA _ _ _ _ he=>have h53:=eT 53 (he.1 rfl);pZ rfl,λA _ _ _ _ he=>have h52:=eT 52 (he.1 rfl);have h54:=eT 54 (he.2.1 rfl);pZ rfl,λ_ _ _ _ _ e=>xM rfl (e.1 rfl),λ_ _ a _ _ e=>yM (e.1 rfl) rfl (a 1 rfl),λ_ _ a _ _ e=>yM (e.1 rfl) rfl (a 7 rfl),λ_ _ _ _ _ e=>aQ rfl rfl (e.2.2.1 rfl) (xI rfl Tryz.underlying27 B oq j (D) (e.1 rfl) (e.2.1 rfl)),λ_ _ _ _ _ e=>aQ rfl rfl (e.2.1 rfl) (wV rfl (e.1 rfl)),λ_ w1 _ hL _ he=>have hb:=hL.below;have d:Below w.heap.size w w1:=b.trans (hb.mono b.size);aQ rfl rfl (he.2.1 rfl) (xL rfl (fI (L.on d)) Tryz.underlying36 (show(bC t.1).length=4 from rfl) (he.1 rfl)),λ_ _ a _ _ e=>yM (e.1 rfl) rfl (a 0 rfl),λ_ _ a _ _ e=>yM (e.1 rfl) rfl (a 6 rfl),λ_ _ _ _ _ e=>aQ rfl rfl (e.2.2.1 rfl) (xI rfl Tryz.underlying27 u y i (r) (e.1 rfl) (e.2.1 rfl)),λ_ _ _ _ _ e=>aQ rfl rfl (e.2.1 rfl) (wV rfl (e.1 rfl)),λ_ w1 _ hL _ he=>have hb:=hL.below;have d:Below w.heap.size w w1:=b.trans (hb.mono b.size);aQ rfl rfl (he.2.1 rfl) (xL rfl (fI (C.on d)) Tryz.underlying36 (show(bC s.1).length=4 from rfl) (he.1 rfl)),λA _ _ _ hS he=>have hb:=hS rfl;have h56:=eT 56 (he.2.2.1 rfl);have h61:=eT 61 (he.1 rfl);have h66:=eT 66 (he.2.1 rfl);have hf0:=eF A 68;cY (f:=68) (args:=#[.agg (bC t.1).toArray,.agg (bC s.1).toArray]) h56 (uC t.1 s.1 _),λ_ _ _ _ _ e=>pK rfl (e.1 rfl) (e.2.1 rfl),trivial⟩ ?_
       ·intro W2 hL2;simp only[aT,af.eq,af.ret,lZ];go_frame;go_wp2;go_meet
        case rel=>exact⟨by rw[hg],hL2.below⟩
      ·have e2:(i:Int)=(p.length:Int):=oM;have e1:((i:Int)==(p.length:Int))=true:=by simp;omega
       have hg:g2=true:=by rw[hg2.out,List.drop_of_length_le (l:=p) oM];rfl
       refine aC mixed (none) (0) (fK.none) [.eq (.int .i64 i),.eq (.slice ap p.length cp),.eq (.int .i64 p.length),.eq (.bool true),.eq (.bool true),.eq undef,.eq undef,.eq undef,.eq undef,.eq undef,.eq undef,.eq undef,.eq undef,.eq undef,.eq undef,.eq undef,.eq (.bool true)] [52,53,54,55,56,57,58,59,60,61,62,63,64,65,66,67,68] rfl rfl rfl rfl ⟨λ_ _ a _ _ _=>xM rfl (a 6 rfl),λ_ _ a _ _ _=>xM rfl (a 0 rfl),λA _ _ _ _ he=>have h53:=eT 53 (he.1 rfl);pZ rfl,λA _ _ _ _ he=>have h52:=eT 52 (he.1 rfl);have h54:=eT 54 (he.2.1 rfl);pZ rfl,λ_ _ _ _ _ e=>xM rfl (e.1 rfl),λ_ _ _ _ _ e=>nO true (e.1 rfl),λ_ _ _ _ _ e=>nO true (e.1 rfl),λ_ _ _ _ _ e=>nO true (e.2.2.1 rfl),λ_ _ _ _ _ e=>nO true (e.2.1 rfl),λ_ _ _ _ _ e=>nO true (e.2.1 rfl),λ_ _ _ _ _ e=>nO true (e.1 rfl),λ_ _ _ _ _ e=>nO true (e.1 rfl),λ_ _ _ _ _ e=>nO true (e.2.2.1 rfl),λ_ _ _ _ _ e=>nO true (e.2.1 rfl),λ_ _ _ _ _ e=>nO true (e.2.1 rfl),λ_ _ _ _ _ e=>nO true (e.2.2.1 rfl),λ_ _ _ _ _ e=>ae rfl (ji rfl (e.1 rfl) rfl rfl),trivial⟩ ?_
       ·intro W2 hL2;simp only[aT,af.eq,af.ret,lZ];go_frame;go_wp2;go_meet
        case rel=>exact⟨by rw[hg],hL2.below⟩
     case rest =>
      obtain⟨rfl,G⟩:=hcut;replace b:=b.trans (G.mono b.size);have m:=m.out.on G;clear G;have n:∀k,u5.ownBlock=some k->w.heap.size<=k:=λk hk=>(m.base_le k hk).1;cases g2
      ·obtain⟨s,P2,hP,a8,F⟩:=O8 hg1.out.symm hg2.out.symm;obtain⟨hp1,z,r⟩:=nu hP;obtain⟨u,y,ra,rfl,I,C⟩:=fB hp.out z;have a0:=I.len;have aa:Rs s.2:=rp.out s (List.mem_of_getElem? z);have ab:Rs t.2:=rq.out t (List.mem_of_getElem? S);rw[F]at hR;have a2:(i:Int)<(p.length:Int):=oM;clear F hg1 hg2;replace hp1:=zH hp1;replace hP:=zH hP;replace a8:=zH a8
       go_upto_region 9 with (fail)
       refine aC mixed (none) (0) (fK.none) [.eq (.slice (some ⟨u,y,none⟩) p.length cp),.eq (.int .i64 i),.eq (.pointer (some ⟨u,y+i*8,none⟩)),.eq (.pointer (some ⟨u,y+i*8+4,none⟩)),.eq (.agg (ra).toArray),.eq (.slice (some ⟨B,oq,none⟩) q.length cq),.eq (.int .i64 j),.eq (.pointer (some ⟨B,oq+j*8,none⟩)),.eq (.pointer (some ⟨B,oq+j*8+4,none⟩)),.eq (.agg (rb).toArray),.rat dM ((s.2+t.2)),.box 41 wc.heap.size [.bool false,.slice none 0 0,.bool false,.slice none 0 0]] [78,79,80,81,82,83,84,85,86,87,88,8] rfl rfl rfl rfl ⟨λ_ _ a _ _ _=>xM rfl (a 0 rfl),λ_ _ a _ _ _=>xM rfl (a 6 rfl),λ_ _ _ _ _ e=>pI rfl Tryz.underlying27 u y i (r) (e.1 rfl) (e.2.1 rfl),λ_ _ _ _ _ e=>ae rfl (EU rfl (e.1 rfl)),λ_ w1 _ hL _ he=>have hb:=hL.below;have d:Below w.heap.size w w1:=b.trans (hb.mono b.size);pL rfl (gU (C.on d)) Tryz.underlying41 (a0) (he.1 rfl),λ_ _ a _ _ _=>xM rfl (a 1 rfl),λ_ _ a _ _ _=>xM rfl (a 7 rfl),λ_ _ _ _ _ e=>pI rfl Tryz.underlying27 B oq j (D) (e.1 rfl) (e.2.1 rfl),λ_ _ _ _ _ e=>ae rfl (EU rfl (e.1 rfl)),λ_ w1 _ hL _ he=>have hb:=hL.below;have d:Below w.heap.size w w1:=b.trans (hb.mono b.size);pL rfl (gU (L.on d)) Tryz.underlying41 (a4) (he.1 rfl),λA w1 _ _ hS he=>have hb:=hS rfl;have d:Below w.heap.size w w1:=b.trans (hb.mono b.size);have h82:=eT 82 (he.1 rfl);have h87:=eT 87 (he.2.1 rfl);have hf0:=eF A 81;cP (f:=81) (args:=#[.agg (ra).toArray,.agg (rb).toArray]) (IZ _ _ _ _ _ (I.on d).rat (Y.on d).rat aa ab),?_,trivial⟩ ?_
       ·intro A w1 hA hL hS he;refine ae rfl ?_;refine nk rfl rfl ((fK.none).lr hL) hL.1.size (by generalize A.eval=ev at *;go_simp) (λ_ _ h=>h)
       ·intro W2 hL2;have hbW2:=b.trans (hL2.below.mono b.size);simp only[aT,af.eq,af.rat,af.box,af.of,lZ];rintro v88 h88 v8 ⟨x,-,ag,rfl,B8⟩;obtain⟨n5,a5,k5,c5,n6,a6,k6,c6,rfl⟩:=fE h88;go_frame;have hown2:=m.on hL2.below;have ac:w.heap.size<=x:=by have:=b.size;omega
        clear hL2
        go_upto_region 10 with (refine az rfl _ (.tmp 8) (.tmp 88) rfl _ _ _ _ rfl rfl B8 rfl dA dJ ?_;intro W3 R3 gr3)
        have hl3:Lr (some x) 41 W2 W3:=⟨gr3,λk hk=>by cases hk;exact⟨B8.noOther,R3.noOther⟩⟩
        have a9:u5.ownBlock≠some x:=by intro h;have h1:=(hown2.okr x h).2;exact absurd (h1 _ _ _ B8) dM
        have hown3:=hown2.lr hl3 (aW dM) (.inr a9);have J:=h88.lr hl3 dM;have hbW3:=hbW2.trans (hl3.belowAt hbW2.size (λk hk=>by cases hk;exact ac));have hsgn:=λW hb=>zf _ _ W (J.on (w':=W) hb);have y1:=R3.at1 0 _ rfl;have y2:=R3.at1 1 _ rfl;have y3:=R3.at1 2 _ rfl;have y4:=R3.at1 3 _ rfl;clear hl3 gr3 B8 hown2 hbW2;by_cases hz:s.2+t.2=0
        ·have hs0:jm (s.2+t.2).num=0:=by rw[hz];rfl
         rw[if_pos hz]at hR;rw[hs0]at hsgn
         go_wp2_with (go_at_call 67;refine(hsgn _ (Below.refl _ _)).mono ?_;rintro en W4 ⟨rfl,hb4⟩)
         have hown4:=hown3.on hb4;have hbW4:=hbW3.trans (hb4.mono hbW3.size);go_roundw
         case measure=>simp[intOf];omega
         case rel=>exact⟨i+1,j+1,M,nM,nM,oM,oM,zH hown4,zH (by rw[hR.out,hp1.out,hq1.out]),oM,hbW4⟩
        ·have hs0:=sj hz;rw[if_neg hz]at hR;generalize jm (s.2+t.2).num=sg at hs0 hsgn;have hs1:(sg != 0)=true:=by simpa using hs0
         go_upto_region 11 with (go_at_call 67;refine(hsgn _ (Below.refl _ _)).mono ?_;rintro en W4 ⟨rfl,hb4⟩)
         have hown4:=hown3.on hb4;have hbW4:=hbW3.trans (hb4.mono hbW3.size);have R4:=R3.on hb4;have h884:=J.on hb4;have hxo4:some x≠u5.ownBlock:=λh=>a9 h.symm;obtain⟨rc,X⟩:∃rc,rc=[Value.bool n5,.slice a5 k5 c5,.bool n6,.slice a6 k6 c6]:=⟨_,rfl⟩;have a7:rc.length=4:=by rw[X];rfl
         rw[show(Value.agg #[.bool n5,.slice a5 k5 c5,.bool n6,.slice a6 k6 c6])=.agg rc.toArray by rw[X]]at h884;rw[<-X]at R4;clear hbW3 hown3 R3 h88 J hsgn y1 y2 y3 y4;refine aC mixed (u5.ownBlock) (aJ) (hown4.okr) [.eq (u5),.eq (.slice (some ⟨u,y,none⟩) p.length cp),.eq (.int .i64 i),.eq (.pointer (some ⟨u,y+i*8,none⟩)),.eq (.pointer (some ⟨u,y+i*8,none⟩)),.eq (.agg (bC s.1).toArray),.eq (.agg (rc).toArray),.eq (.agg (bC s.1++rc).toArray),.new1 aO fw ((s.1,s.2+t.2)),.row aO (w.heap.size) W4.heap.size (M++[(s.1,s.2+t.2)])] [92,93,94,95,96,97,98,99,100,101] rfl rfl rfl rfl ⟨λ_ _ a _ _ _=>xM rfl (a 5 rfl),λ_ _ a _ _ _=>xM rfl (a 0 rfl),λ_ _ a _ _ _=>xM rfl (a 6 rfl),λ_ _ _ _ _ e=>pI rfl Tryz.underlying27 u y i (r) (e.1 rfl) (e.2.1 rfl),λ_ _ _ _ _ e=>ae rfl (wV rfl (e.1 rfl)),λ_ w1 _ hL _ he=>have d:Below w.heap.size w w1:=hbW4.trans (hL.belowAt hbW4.size n);pL rfl (fI (C.on d)) Tryz.underlying36 (show(bC s.1).length=4 from rfl) (he.1 rfl),λ_ _ a hL _ _=>pL rfl ((R4.lr hL hxo4).range 0 rc (λj v h=>by rw[Nat.zero_add];exact h)) Tryz.underlying41 (a7) (a 8 rfl),λ_ _ _ _ _ he=>have h97:=eT 97 (he.1 rfl);have h98:=eT 98 (he.2.1 rfl);ae rfl (aB rfl rfl (oK rfl (by simp only[List.map_toArray,List.map_cons,List.map_nil,h97,h98];exact uA _ _ _ (a7)))),?_,?_,trivial⟩ ?_
         ·intro A w1 hA hL hS he;have hb:=hS rfl;have h99:=eT 99 (he.1 rfl);refine ae rfl ?_;have hE:(aO:El _).E w1 _ ((s.1,s.2+t.2)):=⟨_,rfl,(h884.on hb).cellsC⟩;refine fo rfl rfl ((hown4.okr).lr hL) hE (bu rfl ?_) (λ_ _ h=>h);simp only[List.map_toArray,List.map_cons,List.map_nil,h99];exact bK _ _ ((aO).len hE)
         ·intro A w1 hA hL hS he;have hb:=hS rfl;have d:Below w.heap.size w w1:=hbW4.trans (hL.belowAt hbW4.size n);have h92:=eT 92 (he.1 rfl);obtain⟨v100,h100,f100⟩:=fT 100 (he.2.1 rfl);exact ae rfl (dL rfl rfl rfl Tryz.underlying27 bG h92 h100 (hown4.on hb) rfl rfl (dV f100) (by simp;omega) (d.size) hL.1.size (λ_ _ h1 h2=>⟨h1,h2⟩))
         ·intro W5 hL5;simp only[aT,af.eq,af.new1,af.row,af.asPure,af.of,af.fragile,lZ];rintro v100 - v101 ⟨hown5,Z⟩;go_frame;have hbW5:=hbW4.trans (hL5.belowAt hbW4.size n);go_wp2;go_roundw
          case measure=>simp[intOf];omega
          case rel=>exact⟨i+1,j+1,M++[(s.1,s.2+t.2)],nM,nM,oM,oM,zH hown5,zH (by rw[hR.out,hp1.out,hq1.out];simp),by simp;omega,hbW5⟩
      ·have F:=Q5 hg2.out.symm;rw[F]at hR;clear F hg1 hg2;have h8:(bC t.1++rb).length=8:=by rw[List.length_append,a4];rfl
       go_upto_region 7 with (fail)
       refine aR trivial (u5.ownBlock) (aJ) (m.okr) [.eq (u5),.eq (.slice (some ⟨B,oq,none⟩) q.length cq),.eq (.int .i64 j),.eq (.pointer (some ⟨B,oq+j*8,none⟩)),.eq (.agg (bC t.1++rb).toArray),.new1 aO fw (t),.row aO (w.heap.size) wc.heap.size (M++[t])] [69,70,71,72,73,74,75] rfl rfl rfl rfl ⟨λ_ _ a _ _ _=>xM rfl (a 5 rfl),λ_ _ a _ _ _=>xM rfl (a 1 rfl),λ_ _ a _ _ _=>xM rfl (a 7 rfl),λ_ _ _ _ _ e=>pI rfl Tryz.underlying27 B oq j (D) (e.1 rfl) (e.2.1 rfl),λ_ w1 _ hL _ he=>have d:Below w.heap.size w w1:=b.trans (hL.belowAt b.size n);pL rfl ((L.on d).range) Tryz.underlying43 (h8) (he.1 rfl),?_,?_,trivial⟩ ?_
       ·intro A w1 hA hL hS he;have d:Below w.heap.size w w1:=b.trans (hL.belowAt b.size n);have h73:=eT 73 (he.1 rfl);refine ae rfl ?_;have hE:(aO:El _).E w1 _ (t):=⟨_,rfl,Y.on d⟩;refine fo rfl rfl ((m.okr).lr hL) hE (bu rfl ?_) (λ_ _ h=>h);simp only[List.map_toArray,List.map_cons,List.map_nil,h73];exact bK _ _ ((aO).len hE)
       ·intro A w1 hA hL hS he;have hb:=hS rfl;have d:Below w.heap.size w w1:=b.trans (hL.belowAt b.size n);have h69:=eT 69 (he.1 rfl);obtain⟨v74,h74,f74⟩:=fT 74 (he.2.1 rfl);exact ae rfl (dL rfl rfl rfl Tryz.underlying27 bG h69 h74 (m.on hb) rfl rfl (dV f74) (by simp;omega) (d.size) hL.1.size (λ_ _ h1 h2=>⟨h1,h2⟩))
       ·intro W5 hL5;simp only[aT,af.eq,af.new1,af.row,af.asPure,af.of,af.fragile,lZ];rintro v74 - v75 ⟨hown5,Z⟩;go_frame;have hbW5:=b.trans (hL5.belowAt b.size n);go_wp2;go_roundw
        case measure=>simp[intOf];omega
        case rel=>exact⟨i,j+1,M++[t],rfl,nM,oM,oM,zH hown5,zH (by rw[hR.out,hq1.out];simp),by simp;omega,hbW5⟩
    ·obtain⟨s,P2,hP,F⟩:=Q4 hg1.out.symm N.out;obtain⟨hp1,z,r⟩:=nu hP;obtain⟨u,y,ra,rfl,I,C⟩:=fB hp.out z;have a0:=I.len;rw[F]at hR;have a2:(i:Int)<(p.length:Int):=oM;clear F hg1 N hP;replace hp1:=zH hp1;have h8:(bC s.1++ra).length=8:=by rw[List.length_append,a0];rfl
     replace m:=m.out;have n:∀k,u5.ownBlock=some k->w.heap.size<=k:=λk hk=>(m.base_le k hk).1
     go_upto_region 4 with (fail)
     refine aR trivial (u5.ownBlock) (aJ) (m.okr) [.eq (u5),.eq (.slice (some ⟨u,y,none⟩) p.length cp),.eq (.int .i64 i),.eq (.pointer (some ⟨u,y+i*8,none⟩)),.eq (.agg (bC s.1++ra).toArray),.new1 aO fw (s),.row aO (w.heap.size) wc.heap.size (M++[s])] [43,44,45,46,47,48,49] rfl rfl rfl rfl ⟨λ_ _ a _ _ _=>xM rfl (a 5 rfl),λ_ _ a _ _ _=>xM rfl (a 0 rfl),λ_ _ a _ _ _=>xM rfl (a 6 rfl),λ_ _ _ _ _ e=>pI rfl Tryz.underlying27 u y i (r) (e.1 rfl) (e.2.1 rfl),λ_ w1 _ hL _ he=>have d:Below w.heap.size w w1:=b.trans (hL.belowAt b.size n);pL rfl ((C.on d).range) Tryz.underlying43 (h8) (he.1 rfl),?_,?_,trivial⟩ ?_
     ·intro A w1 hA hL hS he;have d:Below w.heap.size w w1:=b.trans (hL.belowAt b.size n);have h47:=eT 47 (he.1 rfl);refine ae rfl ?_;have hE:(aO:El _).E w1 _ (s):=⟨_,rfl,I.on d⟩;refine fo rfl rfl ((m.okr).lr hL) hE (bu rfl ?_) (λ_ _ h=>h);simp only[List.map_toArray,List.map_cons,List.map_nil,h47];exact bK _ _ ((aO).len hE)
     ·intro A w1 hA hL hS he;have hb:=hS rfl;have d:Below w.heap.size w w1:=b.trans (hL.belowAt b.size n);have h43:=eT 43 (he.1 rfl);obtain⟨v48,h48,f48⟩:=fT 48 (he.2.1 rfl);exact ae rfl (dL rfl rfl rfl Tryz.underlying27 bG h43 h48 (m.on hb) rfl rfl (dV f48) (by simp;omega) (d.size) hL.1.size (λ_ _ h1 h2=>⟨h1,h2⟩))
     ·intro W5 hL5;simp only[aT,af.eq,af.new1,af.row,af.asPure,af.of,af.fragile,lZ];rintro v48 - v49 ⟨hown5,Z⟩;go_frame;have hbW5:=b.trans (hL5.belowAt b.size n);go_wp2;go_roundw
      case measure=>simp[intOf];omega
      case rel=>exact⟨i+1,j,M++[s],nM,rfl,oM,oM,zH hown5,zH (by rw[hR.out,hp1.out];simp),by simp;omega,hbW5⟩
  ·have a1:i=p.length:=oM;have a3:j=q.length:=oM;rw[a1,a3,List.drop_length,List.drop_length,mergeP_nil,List.append_nil]at hR;have g1:¬(i:Int)<(p.length:Int):=oM;have g2:¬(j:Int)<(q.length:Int):=oM;clear a1 a3;go_wp2;go_ret;exact⟨_,rfl,by rw[hR.out];exact m.out,b⟩
theorem CG(b d:Value)(p q:List ai)(w:World)(hp:ak w b p)(hq:ak w d q)(j:∀t∈p,Rs t.2)(k:∀t∈q,Rs t.2)(e:p.length<=100000000)(i:q.length<=100000000) :
  Calls Tryz.prog 39 #[b,d] w (aS w (dD p q)):=(Ja b d p q w hp hq j k e i).mono λ_ _ h=>h.poly
end Go.Proofs.YtopclbeomcggiaaGreat
end
