/- mpoly.Pseudo. Validity: the reference's and the program's. Validity: the program's. -/
import Derived.Test.YtopclbeomcggiaaGreatC02
import Derived.Test.YtopclbeomcggiaaGreatC20
import Derived.Test.YtopclbeomcggiaaGreatC25
import Derived.Test.YtopclbeomcggiaaGreatC28
import Derived.Test.YtopclbeomcggiaaGreatC29
set_option linter.unusedVariables false
set_option linter.unusedSimpArgs false
set_option maxHeartbeats 16000000
set_option maxRecDepth 100000
section
namespace Q
def psStep (D R:List (List Trm)):List (List Trm) :=
 let n:=D.length-1
 let top:=R.getD (R.length-1) []
 (List.range (R.length-1)).map fun i=>if R.length-1-n<=i then subP (mulP (R.getD i []) (D.getD n [])) (mulP top (D.getD (i-(R.length-1-n)) [])) else mulP (R.getD i []) (D.getD n [])
def psRun (D:List (List Trm)):Nat->List (List Trm)->List (List Trm)
|0,R=>R
|f+1,R=>if D.length-1<R.length then psRun D f (psStep D R) else R
theorem psStep_len (D R:List (List Trm)):(psStep D R).length=R.length-1:=by simp [psStep]
def psTo (D R:List (List Trm)) (i:Nat):List (List Trm):=(psStep D R).take i++(R.take (R.length-1)).drop i
theorem psTo_len {D R:List (List Trm)} {i:Nat} (h:i<=R.length-1):(psTo D R i).length=R.length-1:=by simp [psTo,psStep_len];omega
theorem psTo_zero (D R:List (List Trm)):psTo D R 0=R.take (R.length-1):=by simp [psTo]
theorem psTo_full (D R:List (List Trm)):psTo D R (R.length-1)=psStep D R:=by
 rw [psTo,List.drop_of_length_le (by simp),List.append_nil,List.take_of_length_le (by rw [psStep_len];exact Nat.le_refl _)]
theorem psTo_get {D R:List (List Trm)} {i:Nat} (h:i<R.length-1):(psTo D R i)[i]?=some (R.getD i []):=by
 have hl:((psStep D R).take i).length=i:=by rw [List.length_take,psStep_len];omega
 rw [psTo,List.getElem?_append_right (by omega),List.getElem?_drop];rw [hl,Nat.sub_self,Nat.add_zero,List.getElem?_take,if_pos h,List.getD_eq_getElem?_getD,List.getElem?_eq_getElem (by omega)]
 rfl
theorem psTo_succ {D R:List (List Trm)} {i:Nat} (h:i<R.length-1) :
  psTo D R (i+1)=(psTo D R i).set i (if R.length-1-(D.length-1)<=i then subP (mulP (R.getD i []) (D.getD (D.length-1) [])) (mulP (R.getD (R.length-1) []) (D.getD (i-(R.length-1-(D.length-1))) [])) else mulP (R.getD i []) (D.getD (D.length-1) [])):=by
 have hl:((psStep D R).take i).length=i:=by rw [List.length_take,psStep_len];omega
 rw [psTo,psTo,List.set_append_right _ _ (by omega),hl,Nat.sub_self,List.drop_eq_getElem_cons (show i<(R.take (R.length-1)).length by simp;omega),List.set_cons_zero,List.take_add_one,List.append_assoc]
 congr 1
 have:(psStep D R)[i]?=some (if R.length-1-(D.length-1)<=i then subP (mulP (R.getD i []) (D.getD (D.length-1) [])) (mulP (R.getD (R.length-1) []) (D.getD (i-(R.length-1-(D.length-1))) [])) else mulP (R.getD i []) (D.getD (D.length-1) [])):=by
  simp [psStep,h]
 rw [this];rfl
end Q
namespace Q
open Go Go.RowKit Go.Proofs.YtopclbeomcggiaaGreat
structure MulOk (p q:List Trm):Prop where
 kp:∀ t∈p,InR t.1/\Rk t.2
 kq:∀ t∈q,InR t.1/\Rk t.2
 ko:Okl (prods p q)
 kl:p.length<=100000000/\q.length<=100000000
structure SubOk (p q:List Trm):Prop where
 kp:∀ t∈p,Rk t.2
 kq:∀ t∈q,Rk t.2
 kl:p.length<=100000000/\q.length<=100000000
 kv:Vld p/\Vld q
def PsOk (D R:List (List Trm)):Prop:=∀ i,i<R.length-1->MulOk (R.getD i []) (D.getD (D.length-1) []) /\
 (R.length-1-(D.length-1)<=i->MulOk (R.getD (R.length-1) []) (D.getD (i-(R.length-1-(D.length-1))) [])/\SubOk (mulP (R.getD i []) (D.getD (D.length-1) [])) (mulP (R.getD (R.length-1) []) (D.getD (i-(R.length-1-(D.length-1))) [])))
def PsAll (D:List (List Trm)):Nat->List (List Trm)->Prop
|0,_=>True
|f+1,R=>D.length-1<R.length->PsOk D R/\PsAll D f (psStep D R)
structure Cols (w:World) (g:Nat) (vs:List Value) (R:List (List Trm)):Prop where
 b:Blk w g polyT vs
 l:R.length<=vs.length
 p:∀ (i:Nat) v p,vs[i]?=some v->R[i]?=some p->IsPoly w v p
theorem Cols.on {w w':World} {g:Nat} {vs:List Value} {R:List (List Trm)} (h:Cols w g vs R) (hb:Below w.heap.size w w'):Cols w' g vs R :=
 ⟨h.b.on hb,h.l,fun i v p h1 h2=>(h.p i v p h1 h2).on hb⟩
theorem Cols.get {w:World} {g:Nat} {vs:List Value} {R:List (List Trm)} (h:Cols w g vs R) {i:Nat} (hi:i<R.length):∃ v,vs[i]?=some v/\IsPoly w v (R.getD i [])/\w.cell? ⟨g,i,none⟩=some v:=by
 have h1:=h.l;have hv:vs[i]?=some vs[i]:=List.getElem?_eq_getElem (by omega);refine⟨vs[i],hv,h.p i _ _ hv ?_,h.b.at1 i _ hv⟩;rw [List.getD_eq_getElem?_getD,List.getElem?_eq_getElem hi];rfl
theorem Cols.set {w:World} {g:Nat} {vs:List Value} {R:List (List Trm)} (h:Cols w g vs R) {i:Nat} (hi:i<R.length) {v:Value} {q:List Trm} (hq:IsPoly w v q) :
  Cols (w.setCell ⟨g,i,none⟩ v) g (vs.set i v) (R.set i q)/\Lr (some g) polyT w (w.setCell ⟨g,i,none⟩ v):=by
 have hl:=setCell_lr (j:=i) h.b v;refine⟨⟨h.b.set i v,by simpa using h.l,fun j u p h1 h2=>?_⟩,hl⟩;rw [List.getElem?_set] at h1 h2;by_cases hij:i=j
 ·subst hij;rw [if_pos rfl,if_pos (by have:=h.l;omega)] at h1;rw [if_pos rfl,if_pos hi] at h2;cases h1;cases h2;exact hq.lr hl (elTerm_ok (by decide)) (by decide)
 ·rw [if_neg hij] at h1 h2;exact (h.p j u p h1 h2).lr hl (elTerm_ok (by decide)) (by decide)
theorem Cols.take {w:World} {g:Nat} {vs:List Value} {R:List (List Trm)} (h:Cols w g vs R) (k:Nat):Cols w g vs (R.take k) :=
 ⟨h.b,by have:=h.l;rw [List.length_take];omega,fun i v p h1 h2=>h.p i v p h1 (by rw [List.getElem?_take] at h2;split at h2;exact h2;cases h2)⟩
theorem Cols.other {w w':World} {g h:Nat} {vs:List Value} {R:List (List Trm)} (hc:Cols w g vs R) (hl:Lr (some h) polyT w w') (hne:g≠h):Cols w' g vs R :=
 ⟨hc.b.lr hl (by simpa using hne),hc.l,fun i v p h1 h2=>(hc.p i v p h1 h2).lr hl (elTerm_ok (by decide)) (by decide)⟩
theorem Cols.polys {w:World} {g:Nat} {vs:List Value} {R:List (List Trm)} (h:Cols w g vs R):IsPolys w (.slice (some ⟨g,0,none⟩) R.length vs.length) R:=by
 refine⟨_,_,vs.take R.length,rfl,h.l,fun _=>⟨g,0,rfl,h.b.cells.take _⟩,elems_polys (by rw [List.length_take];have:=h.l;omega) fun n v l h1 h2=>?_⟩;rw [List.getElem?_take] at h1;split at h1
 ·exact h.p n v l h1 h2
 ·cases h1
end Q
namespace Go.Proofs.YtopclbeomcggiaaGreat
open Go Go.RowKit Q Go.Proofs.YtopclbeomcggiaaGreat
theorem Rows1.cols {w:World} {g base:Nat} {vs:List Value} {L:List (List Trm)} (h:Rows1 base w vs L) (hB:Blk w g polyT vs):Cols w g vs L :=
 ⟨hB,by rw [h.len];exact Nat.le_refl _,fun i v p h1 h2=>(h.own i v p h1 h2).isSl⟩
end Go.Proofs.YtopclbeomcggiaaGreat
namespace Q
open Go Go.RowKit Go.Proofs.YtopclbeomcggiaaGreat
end Q
namespace Q
open Go Go.RowKit
theorem wpList_slice_hi {P:Program} {w:World} {ops:Array Oper} {rest:List Oper} {o:Oper} {a:Act} {Q:Exit->Act->World->Prop} (hg:o.guard=none) (x hi:Operand) (t:TypeId) (hop:o.op=Op.slice t x none (some hi) none) {el:TypeId} (ht:P.underlying t=some (.slice el)) {size:Nat} (hs:(P.info? el).map (·.size)=some size)
  (ao:Option Addr) (n c:Nat) (hx:a.eval x=.slice ao n c) (k:IntKind) (i:Int) (hix:a.eval hi=.int k i) (j:Nat) (hij:i=(j:Int)) (hj:j<=c) (h:wpList P ops Q rest (a.put o.dst (.slice ao j c)) w):wpList P ops Q (o::rest) a w:=by
 refine wpList_plain hg fun K hK=>?_;have hrun:=run_slice_high ht hs w ao n c j k i hij hj;unfold Oper.wp;rw [execOp_slice hop (by simp only [Option.map_some,Option.map_none];rw [hx,hix];exact hrun)];exact hK _ _ h
end Q
namespace Go.Proofs.YtopclbeomcggiaaGreat
open Go.RowKit Q Go.WideMaps Go.Maps
def RetPolyE (w:World) (l:List Trm) (c:Int) (e:Ending) (w':World):Prop:=∃ v,e=.returned (.tuple #[v,.int .i64 c])/\IsPoly w' v l/\Below w.heap.size w w'
theorem pseudo_any (vp vq:Value) (p q:List Trm) (v:Nat) (w:World) (hp:IsPoly w vp p) (hq:IsPoly w vq q) (hv:v<4) (hne:q≠[]) (np:NatL p) (nq:NatL q) (dp:degP p v<=100000) (dq:degP q v<=100000) (lp:p.length<=100000000) (lq:q.length<=100000000)
  (hps:PsAll (coeffsP q v) (coeffsP p v).length (coeffsP p v)) (hok:Okl (fromL v 0 (psRun (coeffsP q v) (coeffsP p v).length (coeffsP p v)))) (hl2:∀ c∈psRun (coeffsP q v) (coeffsP p v).length (coeffsP p v),c.length<=100000000) :
  Calls Tryz.prog 94 #[vp,vq,.int .i64 v] w (RetPolyE w (fromP (psRun (coeffsP q v) (coeffsP p v).length (coeffsP p v)) v) 0):=by
 have hD:=fun W (hb:Below w.heap.size w W)=>coeffs_own vq q v W (hq.on hb) hv nq (by omega) lq;have hR:=fun W (hb:Below w.heap.size w W)=>coeffs_own vp p v W (hp.on hb) hv np (by omega) lp;obtain⟨aq,cq,rfl,hcq⟩:=hq.shape;have hql:0<q.length:=List.length_pos_iff.2 hne
 have hDl:1<=(coeffsP q v).length/\(coeffsP q v).length<=100001:=by
  rw [coeffsP_length];obtain⟨t,ht⟩:=List.exists_mem_of_ne_nil _ hne;have:=degP_le ht v;have:=Ex.nat_get (nq t ht) v;omega
 have hRl:(coeffsP p v).length<=100001:=by rw [coeffsP_length];have:=degP_ge p v;omega
 have hq0:((q.length:Int) == 0)=false:=by simp;omega
 generalize coeffsP q v=D at *;generalize coeffsP p v=R0 at *;obtain⟨RES,hRES⟩:∃ RES,psRun D R0.length R0=RES:=⟨_,rfl⟩;rw [hRES] at hok hl2 ⊢
 have hRESl:RES.length<=100001:=by
  have:∀ f R,(psRun D f R).length<=R.length:=by
   intro f
   induction f with
  |zero=>intro R;exact Nat.le_refl _
  |succ f ih=>intro R;unfold psRun;split;exact Nat.le_trans (ih _) (by rw [psStep_len];omega);exact Nat.le_refl _
  have:=this R0.length R0;rw [hRES] at this;omega
 replace hok:=zH hok;replace hl2:=zH hl2;obtain⟨f0,hf0⟩:∃ f0,f0=R0.length:=⟨_,rfl⟩;rw [<- hf0] at hRES hps;have hfl:R0.length<=D.length - 1+f0:=by omega
 replace hRES:=zH hRES;replace hps:=zH hps;have hnD:((D.length:Int)-1)=((D.length-1:Nat):Int):=by omega
 clear hne hp hq np nq dp dq lp lq hf0
 go_enter Tryz.func94,Tryz.ntmps94
 go_upto_region 4 with (go_at_call 62;refine (hD _ (Below.refl _ _)).mono ?_;rintro en w1 ⟨gd,vd,rfl,hBd,hgd,hRd,hb1⟩)
 have hcD:=hRd.cols hBd;have hvdl:=hRd.len;clear hBd hRd hgd;rw [hvdl]
 go_upto_region 6 with (go_at_call 62;refine (hR _ hb1).mono ?_;rintro en w2 ⟨g,vs,rfl,hB,hg,hRr,hb2⟩)
 have hb12:=hb1.trans (hb2.mono hb1.size);have hc0:=hRr.cols hB;have hcD2:=hcD.on hb2;have hgD:gd<g:=by have:=hcD.b.lt;omega
 have hgw:w.heap.size<=g:=by have:=hb1.size;omega
 have hvl:=hRr.len;have hst:Hid (Cols w2 g vs R0/\vs.length=R0.length/\psRun D f0 R0=RES/\PsAll D f0 R0/\R0.length<=D.length-1+f0):=zH ⟨hc0,hvl,hRES.out,hps.out,hfl⟩;rw [hvl];replace hst:=hst.out;clear hRES hps hB hRr hD hR hcD hc0 hb1 hb2 hg hvl
 go_loopg [10] f0 (fun f v10 wr=>∃ (R:List (List Trm)) (vs:List Value),v10=.slice (some ⟨g,0,none⟩) R.length R0.length/\Hid (Cols wr g vs R)/\vs.length=R0.length/\Hid (psRun D f R=RES)/\Hid (PsAll D f R)/\R.length<=D.length-1+f/\R.length<=R0.length/\Hid (Cols wr gd vd D)/\Below w.heap.size w wr)
 case atStart=>exact⟨R0,vs,rfl,zH hst.1,hst.2.1,zH hst.2.2.1,zH hst.2.2.2.1,hst.2.2.2.2,by omega,zH hcD2,hb12⟩
 case round =>
  clear hst hcD2 hb12;obtain⟨R,vs,rfl,hc,hvl,hrun,hps,hfl,hRc,hcD,hbr⟩:=hrel;by_cases hlt:D.length - 1<R.length
  ·obtain⟨f',rfl⟩:∃ f',gk=f'+1:=⟨gk - 1,by omega⟩;have hrun':Hid (psRun D f' (psStep D R)=RES):=zH (by rw [<- hrun.out,psRun,if_pos hlt]);have hps':=hps.out hlt;have hpo:=zH hps'.1;have hpa:=zH hps'.2;obtain⟨vt,hvt,hPt,hct⟩:=hc.out.get (i:=R.length - 1) (by omega);have hlast:((R.length:Int) - 1)=((R.length - 1:Nat):Int):=by omega
   have hlt':((D.length-1:Nat):Int)<(R.length:Int):=by omega
   have hsli:=fun W':World=>run_slice_high (P:=Tryz.prog) Tryz.underlying75 info38 W' (some ⟨g,0,none⟩) R.length R0.length (R.length-1) .i64 ((R.length-1:Nat):Int) rfl (by omega);have hct2:=(hc.out.take (R.length-1));rw [<- psTo_zero D R] at hct2;replace hct2:=zH hct2;have hpt:=zH hPt;have hR1:R.length<=100001:=by omega
   clear hrun hps hps' hvt hPt hc
   go_upto_region 9 with (first
   |(refine wpList_index_at rfl _ _ 75 rfl polyT Tryz.underlying75 _ 1 24 (by kernel_rfl) _ _ _ rfl .i64 _ rfl (R.length-1) (by omega) (by omega) g 0 rfl ?_;rw [Nat.mul_one,Nat.zero_add])
   |(refine wpList_slice_hi rfl _ _ 75 rfl Tryz.underlying75 info38 _ _ _ rfl .i64 _ rfl (R.length-1) (by omega) (by omega) ?_))
   clear hct hsli;go_wp2
   go_loopw [43] (fun i wr=>∃ (k:Nat) (vs:List Value),k<=R.length-1/\i=.int .i64 k/\Hid (Cols wr g vs (psTo D R k))/\vs.length=R0.length/\Hid (IsPoly wr vt (R.getD (R.length-1) []))/\Hid (Cols wr gd vd D)/\Below w.heap.size w wr) (fun i _=>R.length-1-(intOf i).toNat)
   case atStart=>exact⟨0,vs,by omega,by go_num,hct2,hvl,hpt,hcD,hbr⟩
   case round =>
    clear hct2 hpt hcD hbr hvl;obtain⟨k,vs,hk,rfl,hc,hvl,hpt,hcD,hbr⟩:=hrel;by_cases hkl:k<R.length - 1
    ·have hkl':(k:Int)<((R.length-1:Nat):Int):=by omega
     have hlen:(psTo D R k).length=R.length - 1:=psTo_len (by omega);obtain⟨vk,hvk,-,hck⟩:=hc.out.get (i:=k) (by omega);have hPk:IsPoly wr vk (R.getD k []):=hc.out.p k _ _ hvk (psTo_get hkl);obtain⟨vn,hvn,hPn,hcn⟩:=hcD.out.get (i:=D.length - 1) (by omega);obtain⟨mo,mo2⟩:=hpo.out k hkl;have hsucc:=psTo_succ (D:=D) hkl;replace hsucc:=zH hsucc;replace mo2:=zH mo2;have hgl:g<wr.heap.size:=hc.out.b.lt;have hgdl:gd<wr.heap.size:=hcD.out.b.lt;have f1:∀ W,Below wr.heap.size wr W->W.cell? ⟨g,k,none⟩=some vk:=fun W h=>by rw [h.cell hgl];exact hck
     have f2:∀ W,Below wr.heap.size wr W->W.cell? ⟨gd,D.length-1,none⟩=some vn:=fun W h=>by rw [h.cell hgdl];exact hcn
     clear hck hcn
     go_upto_region 12 with (fail)
     refine wp_region_L mixed (none) (0) (Okr.none) [.eq (.slice (some ⟨g,0,none⟩) (R.length-1) R0.length),.eq (.int .i64 k),.eq (.slice (some ⟨g,0,none⟩) (R.length-1) R0.length),.eq (.int .i64 k),.eq (.pointer (some ⟨g,0+k*1,none⟩)),.eq (vk),.eq (.slice (some ⟨gd,0,none⟩) D.length D.length),.eq (.int .i64 (D.length-1:Nat)),.eq (.pointer (some ⟨gd,0+(D.length-1)*1,none⟩)),.eq (vn),.poly (by decide) (by decide) ((mulP (R.getD k []) (D.getD (D.length-1) []))),.eq (.pointer (some ⟨g,0+k*1,none⟩))] [46,47,48,49,50,51,52,53,54,55,56,57] rfl rfl rfl rfl ⟨?_,?_,?_,?_,?_,?_,?_,?_,?_,?_,?_,?_,trivial⟩ ?_
     ·exact fun _ _ a _ _ _=>xM rfl (a 10 rfl)
     ·exact fun _ _ a _ _ _=>xM rfl (a 12 rfl)
     ·exact fun _ _ a _ _ _=>xM rfl (a 10 rfl)
     ·exact fun _ _ a _ _ _=>xM rfl (a 12 rfl)
     ·exact fun _ _ _ _ _ e=>pI rfl Tryz.underlying75 g 0 k (hkl) (e.1 rfl) (e.2.1 rfl)
     ·intro A w1 hA hL hS he;have h50:=eT 50 (he.1 rfl);refine goOn_plain rfl ?_;have c0:=f1 w1 hL.below;exact stepG_pure rfl rfl gZ
     ·exact fun _ _ a _ _ _=>xM rfl (a 8 rfl)
     ·exact fun _ _ a _ _ _=>xM rfl (a 9 rfl)
     ·exact fun _ _ _ _ _ e=>pI rfl Tryz.underlying75 gd 0 (D.length-1) (by omega) (e.1 rfl) (e.2.1 rfl)
     ·intro A w1 hA hL hS he;have h54:=eT 54 (he.1 rfl);refine goOn_plain rfl ?_;have c0:=f2 w1 hL.below;exact stepG_pure rfl rfl gZ
     ·intro A w1 hA hL hS he;have hb:=hS rfl;have h51:=eT 51 (he.1 rfl);have h55:=eT 55 (he.2.1 rfl);have hf0:=eF A 54;exact cP (f:=54) (args:=#[vk,vn]) (mul_pp _ _ _ _ _ (hPk.on hb) (hPn.on hb) mo.kp mo.kq mo.ko mo.kl.1 mo.kl.2)
     ·exact fun _ _ _ _ _ e=>pI rfl Tryz.underlying75 g 0 k (hkl) (e.1 rfl) (e.2.1 rfl)
     ·intro W2 hL2;have hb2:=hL2.below;simp only [TailL,FactL.eq,FactL.poly,FactL.of,List.length_cons,List.length_nil,List.drop_succ_cons,List.drop_zero];rintro v56 h56;go_frame;have hc2:=hc.out.on hb2;have hcD2:=hcD.out.on hb2;have hpt2:=hpt.out.on hb2;have hbr2:=hbr.trans (hb2.mono hbr.size);have z:=hc2.b.at1 k _ hvk;have hf:=hc2.b.frozen k;have hkT:k<(psTo D R k).length:=by omega
      obtain⟨hc3,hl3⟩:=hc2.set hkT h56;have hcD3:Cols (W2.setCell ⟨g,k,none⟩ v56) gd vd D:=hcD2.other hl3 (by omega);have hpt3:=hpt2.lr hl3 (elTerm_ok (by decide)) (by decide);have hbr3:=hbr2.trans (hl3.belowAt hbr2.size (fun k hk=>by cases hk;exact hgw));have h563:=h56.lr hl3 (elTerm_ok (by decide)) (by decide);obtain⟨a56,c56,hs56,-⟩:=h56.shape;subst hs56;clear f1 f2 hPk hPn hL2 hc hcD hpt hb2 hbr hc2 hcD2 hpt2 hbr2 hvk hvn h56 mo;generalize mulP (R.getD k []) (D.getD (D.length - 1) [])=A at *;have hR2:R.length - 1<=100000:=by omega
      have hD2:D.length-1<=100000:=by omega
      by_cases hge:R.length-1-(D.length-1)<=k
      ·obtain⟨mo2a,so⟩:=mo2.out hge;have hki:(0:Int)<=(k:Int) - (((R.length - 1:Nat):Int) - ((D.length - 1:Nat):Int)):=by omega
       obtain⟨j,hj⟩:∃ j,j=k - (R.length - 1 - (D.length - 1)):=⟨_,rfl⟩;have hji:(k:Int) - (((R.length - 1:Nat):Int) - ((D.length - 1:Nat):Int))=(j:Int):=by omega
       replace hj:=zH hj
       go_upto_region 15 with (fail)
       have hlenT:((psTo D R k).set k A).length=R.length-1:=by simpa using hlen
       have hjD:j<D.length:=by omega
       rw [<- hj.out] at mo2a so;obtain⟨vj,hvj,hPj,hcj⟩:=hcD3.get (i:=j) hjD;obtain⟨W3,hW3⟩:∃ W3,W3=W2.setCell ⟨g,k,none⟩ (.slice a56 A.length c56):=⟨_,rfl⟩;rw [<- hW3] at hc3 hcD3 hpt3 hbr3 h563 hPj hcj ⊢;have hkT3:k<((psTo D R k).set k A).length:=by omega
       have hck3:W3.cell? ⟨g,k,none⟩=some (.slice a56 A.length c56):=hc3.b.at1 k _ (by rw [List.getElem?_set,if_pos rfl,if_pos (by have:=hc3.l;simp at this;omega)]);have hgl3:g<W3.heap.size:=hc3.b.lt;have hgdl3:gd<W3.heap.size:=hcD3.b.lt;have e1:∀ W,Below W3.heap.size W3 W->W.cell? ⟨g,k,none⟩=some (.slice a56 A.length c56):=fun W h=>by rw [h.cell hgl3];exact hck3
       have e2:∀ W,Below W3.heap.size W3 W->W.cell? ⟨gd,j,none⟩=some vj:=fun W h=>by rw [h.cell hgdl3];exact hcj
       generalize hvv:Value.slice a56 A.length c56=vv at *;clear hW3 hl3 z hf hck3 hcj hki hvv;rw [if_pos hge,<- hj.out] at hsucc;refine wp_region_L mixed (none) (0) (Okr.none) [.eq (.slice (some ⟨g,0,none⟩) (R.length-1) R0.length),.eq (.int .i64 k),.eq (.slice (some ⟨g,0,none⟩) (R.length-1) R0.length),.eq (.int .i64 k),.eq (.pointer (some ⟨g,0+k*1,none⟩)),.eq (vv),.eq (vt),.eq (.slice (some ⟨gd,0,none⟩) D.length D.length),.eq (.int .i64 j),.eq (.pointer (some ⟨gd,0+j*1,none⟩)),.eq (vj),.poly (by decide) (by decide) ((mulP (R.getD (R.length-1) []) (D.getD j []))),.poly (by decide) (by decide) ((subP A (mulP (R.getD (R.length-1) []) (D.getD j [])))),.eq (.pointer (some ⟨g,0+k*1,none⟩))] [66,67,68,69,70,71,72,73,74,75,76,77,78,79] rfl rfl rfl rfl ⟨?_,?_,?_,?_,?_,?_,?_,?_,?_,?_,?_,?_,?_,?_,trivial⟩ ?_
       ·exact fun _ _ a _ _ _=>xM rfl (a 10 rfl)
       ·exact fun _ _ a _ _ _=>xM rfl (a 12 rfl)
       ·exact fun _ _ a _ _ _=>xM rfl (a 10 rfl)
       ·exact fun _ _ a _ _ _=>xM rfl (a 12 rfl)
       ·exact fun _ _ _ _ _ e=>pI rfl Tryz.underlying75 g 0 k (hkl) (e.1 rfl) (e.2.1 rfl)
       ·intro A w1 hA hL hS he;have h70:=eT 70 (he.1 rfl);refine goOn_plain rfl ?_;have c0:=e1 w1 hL.below;exact stepG_pure rfl rfl gZ
       ·exact fun _ _ a _ _ _=>xM rfl (a 11 rfl)
       ·exact fun _ _ a _ _ _=>xM rfl (a 8 rfl)
       ·exact fun _ _ a _ _ _=>xM rfl (a 13 rfl)
       ·exact fun _ _ _ _ _ e=>pI rfl Tryz.underlying75 gd 0 j (hjD) (e.1 rfl) (e.2.1 rfl)
       ·intro A w1 hA hL hS he;have h75:=eT 75 (he.1 rfl);refine goOn_plain rfl ?_;have c0:=e2 w1 hL.below;exact stepG_pure rfl rfl gZ
       ·intro A w1 hA hL hS he;have hb:=hS rfl;have h72:=eT 72 (he.1 rfl);have h76:=eT 76 (he.2.1 rfl);have hf0:=eF A 54;exact cP (f:=54) (args:=#[vt,vj]) (mul_pp _ _ _ _ _ (hpt3.on hb) (hPj.on hb) mo2a.kp mo2a.kq mo2a.ko mo2a.kl.1 mo2a.kl.2)
       ·intro A w1 hA hL hS he;have hb:=hS rfl;have h71:=eT 71 (he.1 rfl);obtain⟨v77,h77,f77⟩:=fT 77 (he.2.1 rfl);have hf0:=eF A 74;exact cP (f:=74) (args:=#[vv,v77]) (sub_any _ _ _ _ _ (h563.on hb) f77 so.kp so.kq so.kl.1 so.kl.2 so.kv.1 so.kv.2)
       ·exact fun _ _ _ _ _ e=>pI rfl Tryz.underlying75 g 0 k (hkl) (e.1 rfl) (e.2.1 rfl)
       ·intro W5 hL5;have hb5:=hL5.below;simp only [TailL,FactL.eq,FactL.poly,FactL.of,List.length_cons,List.length_nil,List.drop_succ_cons,List.drop_zero];rintro v77 - v78 h78;generalize subP A (mulP (R.getD (R.length - 1) []) (D.getD j []))=A2 at h78 hsucc;go_frame;have hc5:=hc3.on hb5;have hcD5:=hcD3.on hb5;have hpt5:=hpt3.on hb5;have hbr5:=hbr3.trans (hb5.mono hbr3.size);obtain⟨vq,hvq,-,z5⟩:=hc5.get (i:=k) hkT3;have hf5:=hc5.b.frozen k;obtain⟨hc6,hl6⟩:=hc5.set hkT3 h78;have hcD6:=hcD5.other hl6 (by omega);have hpt6:=hpt5.lr hl6 (elTerm_ok (by decide)) (by decide);have hbr6:=hbr5.trans (hl6.belowAt hbr5.size (fun k hk=>by cases hk;exact hgw));obtain⟨a78,c78,hs78,-⟩:=h78.shape;subst hs78;rw [show ((psTo D R k).set k A).set k A2=psTo D R (k+1) by rw [hsucc.out];simp] at hc6;clear hc3 hcD3 hpt3 hbr3 h563 hPj e1 e2 hL5 hc5 hcD5 hpt5 hbr5 hvq h78;go_wp2;go_roundw
        case rel=>exact⟨k+1,_,by omega,by go_num,zH hc6,by simpa using hvl,zH hpt6,zH hcD6,hbr6⟩
        case measure=>simp [intOf];omega
      ·have hki:¬ (0:Int)<=(k:Int)-(((R.length-1:Nat):Int)-((D.length-1:Nat):Int)):=by omega
       rw [if_neg hge] at hsucc;go_wp2;go_roundw
       case rel=>exact⟨k+1,_,by omega,by go_num,zH (by rw [hsucc.out];exact hc3),by simpa using hvl,zH hpt3,zH hcD3,hbr3⟩
       case measure=>simp [intOf];omega
    ·obtain rfl:k=R.length - 1:=by omega
     rw [psTo_full] at hc;have hsl:=psStep_len D R;go_wp2;go_roundg f'
     case measure=>omega
     case rel=>exact⟨psStep D R,vs,by rw [hsl],hc,hvl,hrun',hpa,by omega,by omega,hcD,hbr⟩
  ·have hfin:RES=R:=by
    have:=hrun.out
    cases gk with
   |zero=>exact this.symm
   |succ f=>rw [psRun,if_neg hlt] at this;exact this.symm
   have hlt':¬ ((D.length-1:Nat):Int)<(R.length:Int):=by omega
   have hPs:=hc.out.polys;rw [hvl] at hPs;have hfr:=fun W (hb:Below wr.heap.size wr W)=>from_any _ R v W (hPs.on hb) hv (by rw [<- hfin];exact hok.out) (by omega) (by rw [<- hfin];exact hl2.out);replace hfin:=zH hfin;clear hrun hps hc hcD hok hl2
   go_wp2_with (go_at_call 120;refine (hfr _ (Below.refl _ _)).mono ?_;rintro en w5 ⟨v5,rfl,hv5,hb5⟩)
   go_ret2;exact⟨_,rfl,by rw [hfin.out];exact hv5,hbr.trans (hb5.mono hbr.size)⟩
end Go.Proofs.YtopclbeomcggiaaGreat
end
section
namespace Q
def okAt (l:List Trm) (i:Nat):Bool:=match l[i]? with
|none=>true
|some t=>t.1.nat && decide (t.2≠0) && (match i with|0=>true|j+1=>match l[j]? with|none=>true|some s=>s.1.gt t.1)
def vldB (l:List Trm):Bool:=(List.range l.length).all (okAt l)
theorem vldB_iff {l:List Trm}:vldB l=true↔∀ i,i<l.length->okAt l i=true:=by
 unfold vldB;rw [List.all_eq_true];simp only [List.mem_range]
theorem vldB_vld {l:List Trm}:vldB l=true↔Vld l:=by
 rw [vldB_iff];constructor
 ·intro h;refine⟨List.pairwise_iff_getElem.2 fun i j hi hj hij=>?_,fun t ht=>?_⟩
  ·obtain⟨d,rfl⟩:∃ d,j=i+1+d:=⟨j - (i+1),by omega⟩;clear hij
   induction d with
  |zero =>
    have:=h (i+1) (by omega);simp only [okAt,List.getElem?_eq_getElem (show i+1<l.length by omega),List.getElem?_eq_getElem hi,Bool.and_eq_true] at this;exact this.2
  |succ d ih =>
    have h1:=ih (by omega);have:=h (i+1+d+1) (by omega);simp only [okAt,List.getElem?_eq_getElem (show i+1+d+1<l.length by omega),List.getElem?_eq_getElem (show i+1+d<l.length by omega),Bool.and_eq_true] at this;exact Ex.gt_trans h1 this.2
  ·obtain⟨i,hi⟩:=List.mem_iff_getElem?.1 ht;have hil:=(List.getElem?_eq_some_iff.1 hi).1;have:=h i hil;simp only [okAt,hi,Bool.and_eq_true,decide_eq_true_eq] at this;exact⟨this.1.2,this.1.1⟩
 ·intro hv i hi;have hm:=hv.2 l[i] (List.getElem_mem hi);simp only [okAt,List.getElem?_eq_getElem hi,Bool.and_eq_true,decide_eq_true_eq];refine⟨⟨hm.2,hm.1⟩,?_⟩
  cases i with
 |zero=>rfl
 |succ j =>
   simp only [List.getElem?_eq_getElem (show j<l.length by omega)];exact List.pairwise_iff_getElem.1 hv.1 j (j+1) (by omega) hi (by omega)
end Q
namespace Go.Proofs.YtopclbeomcggiaaGreat
open Go.RowKit Q Go.WideMaps Go.Maps
theorem valid7_any (v:Value) (l:List Trm) (w:World) (h:IsPoly w v l) (hr:∀ t∈l,Rs t.2) (hl:l.length<=100000000):Calls Tryz.prog 22 #[v] w (Ret w (.bool (vldB l))):=by
 obtain⟨ap,cp,rfl,hcp⟩:=h.shape;have hall:=vldB_iff (l:=l);generalize vldB l=R at *;replace hall:=zH hall;replace hr:=zH hr
 go_enter Tryz.func22,Tryz.ntmps22
 go_wp2
 go_loopw [3] (fun i wr=>∃ k:Nat,k<=l.length/\i=.int .i64 k/\Hid (∀ j,j<k->okAt l j=true)/\Below w.heap.size w wr) (fun i _=>l.length-(intOf i).toNat)
 case atStart=>exact⟨0,by omega,rfl,zH (fun j h=>by omega),Below.refl _ _⟩
 case round =>
  obtain⟨k,hk,rfl,hpre,hbr⟩:=hrel;by_cases hkl:k<l.length
  ·have hjq:l[k]?=some l[k]:=List.getElem?_eq_getElem hkl;generalize l[k]=t at hjq;obtain⟨b1,o1,cs1,rfl,-,hE1,hC⟩:=h.get hjq;obtain⟨r1,rfl,hr1⟩:=hE1;change Cells monoT w b1 (o1+k*8) _ at hC;have hkt:=hr.out t (List.mem_of_getElem? hjq);have hkl':(k:Int)<l.length:=by omega
   have hl1:=hr1.len;have hsg:=fun W (hb:Below w.heap.size w W)=>sign2_any _ _ W (hr1.on hb).rat
   have hstop:okAt l k=false->Hid (R=false):=fun hf=>by
    cases hR:R
    ·exact zH rfl
    ·have:=(hall.out.1 hR) k hkl;rw [hf] at this;cases this
   have hstep:okAt l k=true->Hid (∀ j,j<k+1->okAt l j=true):=fun ht j hj=>by
    rcases Nat.lt_or_ge j k with h'|h'
    ·exact hpre.out j h'
    ·obtain rfl:j=k:=by omega
     exact ht
   go_upto_region 4 with (fail)
   by_cases hn:t.1.nat=true
   ·have hnt:=hn;by_cases hc:t.2=0
    ·have hst:=hstop (by simp [okAt,hjq,hc]);rw [show sgnZ t.2.num=0 by rw [hc];rfl] at hsg;clear hstep hstop hpre hjq hn;refine wp_region_L mixed (none) (0) (Okr.none) [.eq (.slice (some ⟨b1,o1,none⟩) l.length cp),.eq (.int .i64 k),.eq (.pointer (some ⟨b1,o1+k*8,none⟩)),.eq (.pointer (some ⟨b1,o1+k*8,none⟩)),.eq (.agg (exC t.1).toArray),.ret (.bool true),.eq (.bool false),.eq (.bool false),.eq (.slice (some ⟨b1,o1,none⟩) l.length cp),.eq (.int .i64 k),.eq (.pointer (some ⟨b1,o1+k*8,none⟩)),.eq (.pointer (some ⟨b1,o1+k*8+4,none⟩)),.eq (.agg (r1).toArray),.ret (.bool true),.eq (.bool false),.eq (.bool false),.eq (.bool false),.eq (.slice (some ⟨b1,o1,none⟩) l.length cp),.eq (.int .i64 k),.eq (.pointer (some ⟨b1,o1+k*8,none⟩)),.eq (.pointer (some ⟨b1,o1+k*8+4,none⟩)),.eq (.agg (r1).toArray),.ret (.int .i64 0),.eq (.bool true),.eq (.bool true),.eq (.bool true),.eq undef,.eq undef,.eq undef,.eq undef,.eq undef,.eq undef,.eq undef,.eq undef,.eq undef,.eq undef,.eq undef,.eq undef,.eq undef,.eq undef,.eq undef,.eq undef,.eq undef,.eq (.bool true)] [10,11,12,13,14,15,16,17,18,19,20,21,22,23,24,25,26,27,28,29,30,31,32,33,34,35,36,37,38,39,40,41,42,43,44,45,46,47,48,49,50,51,52,53] rfl rfl rfl rfl ⟨?_,?_,?_,?_,?_,?_,?_,?_,?_,?_,?_,?_,?_,?_,?_,?_,?_,?_,?_,?_,?_,?_,?_,?_,?_,?_,?_,?_,?_,?_,?_,?_,?_,?_,?_,?_,?_,?_,?_,?_,?_,?_,?_,?_,trivial⟩ ?_
     ·exact fun _ _ a _ _ _=>xM rfl (a 0 rfl)
     ·exact fun _ _ a _ _ _=>xM rfl (a 3 rfl)
     ·exact fun _ _ _ _ _ e=>pI rfl Tryz.underlying27 b1 o1 k (hkl) (e.1 rfl) (e.2.1 rfl)
     ·exact fun _ _ _ _ _ e=>goOn_plain rfl (xF0 rfl (e.1 rfl))
     ·exact fun _ _ _ hL _ e=>pL rfl (cells_ex (hC.on (hbr.trans (hL.below.mono hbr.size)))) Tryz.underlying36 (show (exC t.1).length=4 from rfl) (e.1 rfl)
     ·intro A w1 hA hL hS he;have hb:=hS rfl;have h14:=eT 14 (he.1 rfl);have hf0:=eF A 65;refine goOn_plain rfl ?_;refine stepG_call (f:=65) (args:=#[.agg (exC t.1).toArray]) rfl rfl ?_ ?_
      ·exact gZ
      ·refine (hnt ▸ natural7_any t.1 _).mono ?_;rintro e w' ⟨rfl,hb'⟩;exact⟨_,rfl,hb',rfl⟩
     ·intro A w1 hA hL hS he;have h15:=eT 15 (he.1 rfl);exact pZ rfl
     ·exact fun _ _ _ _ _ e=>xM rfl (e.1 rfl)
     ·exact fun _ _ a _ _ e=>yM (e.1 rfl) rfl (a 0 rfl)
     ·exact fun _ _ a _ _ e=>yM (e.1 rfl) rfl (a 3 rfl)
     ·exact fun _ _ _ _ _ e=>goOn_yes rfl rfl (e.2.2.1 rfl) (xI rfl Tryz.underlying27 b1 o1 k (hkl) (e.1 rfl) (e.2.1 rfl))
     ·exact fun _ _ _ _ _ e=>goOn_yes rfl rfl (e.2.1 rfl) (xF1 rfl (e.1 rfl))
     ·exact fun _ _ _ hL _ e=>goOn_yes rfl rfl (e.2.1 rfl) (xL rfl (cells_rat (hC.on (hbr.trans (hL.below.mono hbr.size)))) Tryz.underlying41 (hl1) (e.1 rfl))
     ·intro A w1 hA hL hS he;have hb:=hS rfl;have h17:=eT 17 (he.2.1 rfl);have h22:=eT 22 (he.1 rfl);have hf0:=eF A 66;refine goOn_yes rfl rfl h17 ?_;refine stepG_call (f:=66) (args:=#[.agg (r1).toArray]) rfl rfl ?_ ?_
      ·exact gZ
      ·refine (valid2_any _ _ _ (hr1.on (hbr.trans (hb.mono hbr.size))).rat hkt).mono ?_;rintro e w' ⟨rfl,hb'⟩;exact⟨_,rfl,hb',rfl⟩
     ·intro A w1 hA hL hS he;have h17:=eT 17 (he.2.1 rfl);have h23:=eT 23 (he.1 rfl);exact yZ h17 rfl
     ·exact fun _ _ _ _ _ e=>goOn_plain rfl (stepG_pk rfl (e.1 rfl) rfl (e.2.1 rfl))
     ·exact fun _ _ _ _ _ e=>xM rfl (e.1 rfl)
     ·exact fun _ _ a _ _ e=>yM (e.1 rfl) rfl (a 0 rfl)
     ·exact fun _ _ a _ _ e=>yM (e.1 rfl) rfl (a 3 rfl)
     ·exact fun _ _ _ _ _ e=>goOn_yes rfl rfl (e.2.2.1 rfl) (xI rfl Tryz.underlying27 b1 o1 k (hkl) (e.1 rfl) (e.2.1 rfl))
     ·exact fun _ _ _ _ _ e=>goOn_yes rfl rfl (e.2.1 rfl) (xF1 rfl (e.1 rfl))
     ·exact fun _ _ _ hL _ e=>goOn_yes rfl rfl (e.2.1 rfl) (xL rfl (cells_rat (hC.on (hbr.trans (hL.below.mono hbr.size)))) Tryz.underlying41 (hl1) (e.1 rfl))
     ·intro A w1 hA hL hS he;have hb:=hS rfl;have h26:=eT 26 (he.2.1 rfl);have h31:=eT 31 (he.1 rfl);have hf0:=eF A 67;refine goOn_yes rfl rfl h26 ?_;refine stepG_call (f:=67) (args:=#[.agg (r1).toArray]) rfl rfl ?_ ?_
      ·exact gZ
      ·refine (hsg _ (hbr.trans (hb.mono hbr.size))).mono ?_;rintro e w' ⟨rfl,hb'⟩;exact⟨_,rfl,hb',rfl⟩
     ·intro A w1 hA hL hS he;have h26:=eT 26 (he.2.1 rfl);have h32:=eT 32 (he.1 rfl);have hc0:=eC A (.int .i64 0);exact yZ h26 rfl
     ·exact fun _ _ _ _ _ e=>goOn_plain rfl (stepG_pk rfl (e.1 rfl) rfl (e.2.1 rfl))
     ·exact fun _ _ _ _ _ e=>xM rfl (e.1 rfl)
     ·exact fun _ _ _ _ _ e=>goOn_no (x:=true) rfl rfl (e.1 rfl) rfl rfl
     ·exact fun _ _ _ _ _ e=>goOn_no (x:=true) rfl rfl (e.2.1 rfl) rfl rfl
     ·exact fun _ _ _ _ _ e=>goOn_no (x:=true) rfl rfl (e.2.1 rfl) rfl rfl
     ·exact fun _ _ _ _ _ e=>goOn_undef rfl rfl (e.1 rfl) rfl
     ·exact fun _ _ _ _ _ e=>goOn_undef rfl rfl (e.1 rfl) rfl
     ·exact fun _ _ _ _ _ e=>goOn_undef rfl rfl (e.2.1 rfl) rfl
     ·exact fun _ _ _ _ _ e=>goOn_undef rfl rfl (e.2.2.1 rfl) rfl
     ·exact fun _ _ _ _ _ e=>goOn_undef rfl rfl (e.2.1 rfl) rfl
     ·exact fun _ _ _ _ _ e=>goOn_undef rfl rfl (e.2.1 rfl) rfl
     ·exact fun _ _ _ _ _ e=>goOn_undef rfl rfl (e.1 rfl) rfl
     ·exact fun _ _ _ _ _ e=>goOn_undef rfl rfl (e.1 rfl) rfl
     ·exact fun _ _ _ _ _ e=>goOn_undef rfl rfl (e.2.2.1 rfl) rfl
     ·exact fun _ _ _ _ _ e=>goOn_undef rfl rfl (e.2.1 rfl) rfl
     ·exact fun _ _ _ _ _ e=>goOn_undef rfl rfl (e.2.1 rfl) rfl
     ·exact fun _ _ _ _ _ e=>goOn_undef rfl rfl (e.2.2.1 rfl) rfl
     ·exact fun _ _ _ _ _ e=>goOn_undef rfl rfl (e.2.1 rfl) rfl
     ·exact fun _ _ _ _ _ e=>goOn_no (x:=true) rfl rfl (e.2.2.1 rfl) rfl rfl
     ·exact fun _ _ _ _ _ e=>goOn_plain rfl (stepG_pk rfl (e.1 rfl) rfl rfl)
     ·intro W2 hL2;simp only [TailL,FactL.eq,FactL.ret,List.length_cons,List.length_nil,List.drop_succ_cons,List.drop_zero];go_frame;go_wp2;go_ret;exact⟨by rw [hst.out] <;> rfl,hbr.trans (hL2.below.mono hbr.size)⟩
    ·have hs0:=sgnZ_ne hc;generalize sgnZ t.2.num=sg at hs0 hsg;have hs1:(sg == 0)=false:=by simpa using hs0
     cases k with
    |zero =>
      have hst:=hstep (by simp [okAt,hjq,hc,hn]);clear hstep hstop hpre hjq hn hc;simp only [Nat.zero_add] at hst;refine wp_region_L mixed (none) (0) (Okr.none) [.eq (.slice (some ⟨b1,o1,none⟩) l.length cp),.eq (.int .i64 0),.eq (.pointer (some ⟨b1,o1+0*8,none⟩)),.eq (.pointer (some ⟨b1,o1+0*8,none⟩)),.eq (.agg (exC t.1).toArray),.ret (.bool true),.eq (.bool false),.eq (.bool false),.eq (.slice (some ⟨b1,o1,none⟩) l.length cp),.eq (.int .i64 0),.eq (.pointer (some ⟨b1,o1+0*8,none⟩)),.eq (.pointer (some ⟨b1,o1+0*8+4,none⟩)),.eq (.agg (r1).toArray),.ret (.bool true),.eq (.bool false),.eq (.bool false),.eq (.bool false),.eq (.slice (some ⟨b1,o1,none⟩) l.length cp),.eq (.int .i64 0),.eq (.pointer (some ⟨b1,o1+0*8,none⟩)),.eq (.pointer (some ⟨b1,o1+0*8+4,none⟩)),.eq (.agg (r1).toArray),.ret (.int .i64 sg),.eq (.bool false),.eq (.bool false),.eq (.bool false),.eq (.int .i64 0),.eq (.bool false),.eq (.bool false),.eq undef,.eq undef,.eq undef,.eq undef,.eq undef,.eq undef,.eq undef,.eq undef,.eq undef,.eq undef,.eq undef,.eq undef,.eq undef,.eq (.bool false),.eq (.bool false)] [10,11,12,13,14,15,16,17,18,19,20,21,22,23,24,25,26,27,28,29,30,31,32,33,34,35,36,37,38,39,40,41,42,43,44,45,46,47,48,49,50,51,52,53] rfl rfl rfl rfl ⟨?_,?_,?_,?_,?_,?_,?_,?_,?_,?_,?_,?_,?_,?_,?_,?_,?_,?_,?_,?_,?_,?_,?_,?_,?_,?_,?_,?_,?_,?_,?_,?_,?_,?_,?_,?_,?_,?_,?_,?_,?_,?_,?_,?_,trivial⟩ ?_
      ·exact fun _ _ a _ _ _=>xM rfl (a 0 rfl)
      ·exact fun _ _ a _ _ _=>xM rfl (a 3 rfl)
      ·exact fun _ _ _ _ _ e=>pI rfl Tryz.underlying27 b1 o1 0 (hkl) (e.1 rfl) (e.2.1 rfl)
      ·exact fun _ _ _ _ _ e=>goOn_plain rfl (xF0 rfl (e.1 rfl))
      ·exact fun _ _ _ hL _ e=>pL rfl (cells_ex (hC.on (hbr.trans (hL.below.mono hbr.size)))) Tryz.underlying36 (show (exC t.1).length=4 from rfl) (e.1 rfl)
      ·intro A w1 hA hL hS he;have hb:=hS rfl;have h14:=eT 14 (he.1 rfl);have hf0:=eF A 65;refine goOn_plain rfl ?_;refine stepG_call (f:=65) (args:=#[.agg (exC t.1).toArray]) rfl rfl ?_ ?_
       ·exact gZ
       ·refine (hnt ▸ natural7_any t.1 _).mono ?_;rintro e w' ⟨rfl,hb'⟩;exact⟨_,rfl,hb',rfl⟩
      ·intro A w1 hA hL hS he;have h15:=eT 15 (he.1 rfl);exact pZ rfl
      ·exact fun _ _ _ _ _ e=>xM rfl (e.1 rfl)
      ·exact fun _ _ a _ _ e=>yM (e.1 rfl) rfl (a 0 rfl)
      ·exact fun _ _ a _ _ e=>yM (e.1 rfl) rfl (a 3 rfl)
      ·exact fun _ _ _ _ _ e=>goOn_yes rfl rfl (e.2.2.1 rfl) (xI rfl Tryz.underlying27 b1 o1 0 (hkl) (e.1 rfl) (e.2.1 rfl))
      ·exact fun _ _ _ _ _ e=>goOn_yes rfl rfl (e.2.1 rfl) (xF1 rfl (e.1 rfl))
      ·exact fun _ _ _ hL _ e=>goOn_yes rfl rfl (e.2.1 rfl) (xL rfl (cells_rat (hC.on (hbr.trans (hL.below.mono hbr.size)))) Tryz.underlying41 (hl1) (e.1 rfl))
      ·intro A w1 hA hL hS he;have hb:=hS rfl;have h17:=eT 17 (he.2.1 rfl);have h22:=eT 22 (he.1 rfl);have hf0:=eF A 66;refine goOn_yes rfl rfl h17 ?_;refine stepG_call (f:=66) (args:=#[.agg (r1).toArray]) rfl rfl ?_ ?_
       ·exact gZ
       ·refine (valid2_any _ _ _ (hr1.on (hbr.trans (hb.mono hbr.size))).rat hkt).mono ?_;rintro e w' ⟨rfl,hb'⟩;exact⟨_,rfl,hb',rfl⟩
      ·intro A w1 hA hL hS he;have h17:=eT 17 (he.2.1 rfl);have h23:=eT 23 (he.1 rfl);exact yZ h17 rfl
      ·exact fun _ _ _ _ _ e=>goOn_plain rfl (stepG_pk rfl (e.1 rfl) rfl (e.2.1 rfl))
      ·exact fun _ _ _ _ _ e=>xM rfl (e.1 rfl)
      ·exact fun _ _ a _ _ e=>yM (e.1 rfl) rfl (a 0 rfl)
      ·exact fun _ _ a _ _ e=>yM (e.1 rfl) rfl (a 3 rfl)
      ·exact fun _ _ _ _ _ e=>goOn_yes rfl rfl (e.2.2.1 rfl) (xI rfl Tryz.underlying27 b1 o1 0 (hkl) (e.1 rfl) (e.2.1 rfl))
      ·exact fun _ _ _ _ _ e=>goOn_yes rfl rfl (e.2.1 rfl) (xF1 rfl (e.1 rfl))
      ·exact fun _ _ _ hL _ e=>goOn_yes rfl rfl (e.2.1 rfl) (xL rfl (cells_rat (hC.on (hbr.trans (hL.below.mono hbr.size)))) Tryz.underlying41 (hl1) (e.1 rfl))
      ·intro A w1 hA hL hS he;have hb:=hS rfl;have h26:=eT 26 (he.2.1 rfl);have h31:=eT 31 (he.1 rfl);have hf0:=eF A 67;refine goOn_yes rfl rfl h26 ?_;refine stepG_call (f:=67) (args:=#[.agg (r1).toArray]) rfl rfl ?_ ?_
       ·exact gZ
       ·refine (hsg _ (hbr.trans (hb.mono hbr.size))).mono ?_;rintro e w' ⟨rfl,hb'⟩;exact⟨_,rfl,hb',rfl⟩
      ·intro A w1 hA hL hS he;have h26:=eT 26 (he.2.1 rfl);have h32:=eT 32 (he.1 rfl);have hc0:=eC A (.int .i64 0);exact yZ h26 rfl
      ·exact fun _ _ _ _ _ e=>goOn_plain rfl (stepG_pk rfl (e.1 rfl) rfl (e.2.1 rfl))
      ·exact fun _ _ _ _ _ e=>xM rfl (e.1 rfl)
      ·exact fun _ _ a _ _ e=>yM (e.1 rfl) rfl (a 3 rfl)
      ·intro A w1 hA hL hS he;have h35:=eT 35 (he.2.1 rfl);have h36:=eT 36 (he.1 rfl);have hc0:=eC A (.int .i64 0);exact yZ h35 rfl
      ·exact fun _ _ _ _ _ e=>yM (e.2.1 rfl) rfl (e.1 rfl)
      ·exact fun _ _ _ _ _ e=>goOn_no (x:=false) rfl rfl (e.1 rfl) rfl rfl
      ·exact fun _ _ _ _ _ e=>goOn_no (x:=false) rfl rfl (e.1 rfl) rfl rfl
      ·exact fun _ _ _ _ _ e=>goOn_no (x:=false) rfl rfl (e.2.1 rfl) rfl rfl
      ·exact fun _ _ _ _ _ e=>goOn_no (x:=false) rfl rfl (e.2.2.1 rfl) rfl rfl
      ·exact fun _ _ _ _ _ e=>goOn_no (x:=false) rfl rfl (e.2.1 rfl) rfl rfl
      ·exact fun _ _ _ _ _ e=>goOn_no (x:=false) rfl rfl (e.2.1 rfl) rfl rfl
      ·exact fun _ _ _ _ _ e=>goOn_no (x:=false) rfl rfl (e.1 rfl) rfl rfl
      ·exact fun _ _ _ _ _ e=>goOn_no (x:=false) rfl rfl (e.1 rfl) rfl rfl
      ·exact fun _ _ _ _ _ e=>goOn_no (x:=false) rfl rfl (e.2.2.1 rfl) rfl rfl
      ·exact fun _ _ _ _ _ e=>goOn_no (x:=false) rfl rfl (e.2.1 rfl) rfl rfl
      ·exact fun _ _ _ _ _ e=>goOn_no (x:=false) rfl rfl (e.2.1 rfl) rfl rfl
      ·exact fun _ _ _ _ _ e=>goOn_no (x:=false) rfl rfl (e.2.2.1 rfl) rfl rfl
      ·exact fun _ _ _ _ _ e=>goOn_no (x:=false) rfl rfl (e.2.1 rfl) rfl rfl
      ·exact fun _ _ _ _ _ e=>goOn_yes rfl rfl (e.2.2.1 rfl) (stepG_pk rfl (e.1 rfl) rfl rfl)
      ·exact fun _ _ _ _ _ e=>goOn_plain rfl (stepG_pk rfl (e.1 rfl) rfl (e.2.1 rfl))
      ·intro W2 hL2;simp only [TailL,FactL.eq,FactL.ret,List.length_cons,List.length_nil,List.drop_succ_cons,List.drop_zero];go_frame;go_wp2;go_roundw
       case rel=>exact⟨1,by omega,by go_num,hst,hbr.trans (hL2.below.mono hbr.size)⟩
       case measure=>simp [intOf];omega
    |succ i =>
      have hil:i<l.length:=by omega
      have hji:l[i]?=some l[i]:=List.getElem?_eq_getElem hil;generalize l[i]=s at hji;obtain⟨b2,o2,cs2,e2,-,hE2,hCp⟩:=h.get hji;cases e2;obtain⟨r2,rfl,hr2⟩:=hE2;change Cells monoT w b1 (o1+i*8) _ at hCp;have hk0:((0:Int)<((i+1:Nat):Int)):=by omega
      have hki:(((i+1:Nat):Int)-1)=(i:Int):=by omega
      by_cases hg:s.1.gt t.1=true
      ·have hgt:=hg;have hst:=hstep (by simp [okAt,hjq,hji,hc,hn,hg]);clear hstep hstop hpre hjq hji hn hc hg;refine wp_region_L mixed (none) (0) (Okr.none) [.eq (.slice (some ⟨b1,o1,none⟩) l.length cp),.eq (.int .i64 (i+1:Nat)),.eq (.pointer (some ⟨b1,o1+(i+1)*8,none⟩)),.eq (.pointer (some ⟨b1,o1+(i+1)*8,none⟩)),.eq (.agg (exC t.1).toArray),.ret (.bool true),.eq (.bool false),.eq (.bool false),.eq (.slice (some ⟨b1,o1,none⟩) l.length cp),.eq (.int .i64 (i+1:Nat)),.eq (.pointer (some ⟨b1,o1+(i+1)*8,none⟩)),.eq (.pointer (some ⟨b1,o1+(i+1)*8+4,none⟩)),.eq (.agg (r1).toArray),.ret (.bool true),.eq (.bool false),.eq (.bool false),.eq (.bool false),.eq (.slice (some ⟨b1,o1,none⟩) l.length cp),.eq (.int .i64 (i+1:Nat)),.eq (.pointer (some ⟨b1,o1+(i+1)*8,none⟩)),.eq (.pointer (some ⟨b1,o1+(i+1)*8+4,none⟩)),.eq (.agg (r1).toArray),.ret (.int .i64 sg),.eq (.bool false),.eq (.bool false),.eq (.bool false),.eq (.int .i64 (i+1:Nat)),.eq (.bool true),.eq (.bool true),.eq (.slice (some ⟨b1,o1,none⟩) l.length cp),.eq (.int .i64 (i+1:Nat)),.eq (.int .i64 i),.eq (.pointer (some ⟨b1,o1+i*8,none⟩)),.eq (.pointer (some ⟨b1,o1+i*8,none⟩)),.eq (.agg (exC s.1).toArray),.eq (.slice (some ⟨b1,o1,none⟩) l.length cp),.eq (.int .i64 (i+1:Nat)),.eq (.pointer (some ⟨b1,o1+(i+1)*8,none⟩)),.eq (.pointer (some ⟨b1,o1+(i+1)*8,none⟩)),.eq (.agg (exC t.1).toArray),.ret (.bool true),.eq (.bool false),.eq (.bool false),.eq (.bool false)] [10,11,12,13,14,15,16,17,18,19,20,21,22,23,24,25,26,27,28,29,30,31,32,33,34,35,36,37,38,39,40,41,42,43,44,45,46,47,48,49,50,51,52,53] rfl rfl rfl rfl ⟨?_,?_,?_,?_,?_,?_,?_,?_,?_,?_,?_,?_,?_,?_,?_,?_,?_,?_,?_,?_,?_,?_,?_,?_,?_,?_,?_,?_,?_,?_,?_,?_,?_,?_,?_,?_,?_,?_,?_,?_,?_,?_,?_,?_,trivial⟩ ?_
       ·exact fun _ _ a _ _ _=>xM rfl (a 0 rfl)
       ·exact fun _ _ a _ _ _=>xM rfl (a 3 rfl)
       ·exact fun _ _ _ _ _ e=>pI rfl Tryz.underlying27 b1 o1 (i+1) (hkl) (e.1 rfl) (e.2.1 rfl)
       ·exact fun _ _ _ _ _ e=>goOn_plain rfl (xF0 rfl (e.1 rfl))
       ·exact fun _ _ _ hL _ e=>pL rfl (cells_ex (hC.on (hbr.trans (hL.below.mono hbr.size)))) Tryz.underlying36 (show (exC t.1).length=4 from rfl) (e.1 rfl)
       ·intro A w1 hA hL hS he;have hb:=hS rfl;have h14:=eT 14 (he.1 rfl);have hf0:=eF A 65;refine goOn_plain rfl ?_;refine stepG_call (f:=65) (args:=#[.agg (exC t.1).toArray]) rfl rfl ?_ ?_
        ·exact gZ
        ·refine (hnt ▸ natural7_any t.1 _).mono ?_;rintro e w' ⟨rfl,hb'⟩;exact⟨_,rfl,hb',rfl⟩
       ·intro A w1 hA hL hS he;have h15:=eT 15 (he.1 rfl);exact pZ rfl
       ·exact fun _ _ _ _ _ e=>xM rfl (e.1 rfl)
       ·exact fun _ _ a _ _ e=>yM (e.1 rfl) rfl (a 0 rfl)
       ·exact fun _ _ a _ _ e=>yM (e.1 rfl) rfl (a 3 rfl)
       ·exact fun _ _ _ _ _ e=>goOn_yes rfl rfl (e.2.2.1 rfl) (xI rfl Tryz.underlying27 b1 o1 (i+1) (hkl) (e.1 rfl) (e.2.1 rfl))
       ·exact fun _ _ _ _ _ e=>goOn_yes rfl rfl (e.2.1 rfl) (xF1 rfl (e.1 rfl))
       ·exact fun _ _ _ hL _ e=>goOn_yes rfl rfl (e.2.1 rfl) (xL rfl (cells_rat (hC.on (hbr.trans (hL.below.mono hbr.size)))) Tryz.underlying41 (hl1) (e.1 rfl))
       ·intro A w1 hA hL hS he;have hb:=hS rfl;have h17:=eT 17 (he.2.1 rfl);have h22:=eT 22 (he.1 rfl);have hf0:=eF A 66;refine goOn_yes rfl rfl h17 ?_;refine stepG_call (f:=66) (args:=#[.agg (r1).toArray]) rfl rfl ?_ ?_
        ·exact gZ
        ·refine (valid2_any _ _ _ (hr1.on (hbr.trans (hb.mono hbr.size))).rat hkt).mono ?_;rintro e w' ⟨rfl,hb'⟩;exact⟨_,rfl,hb',rfl⟩
       ·intro A w1 hA hL hS he;have h17:=eT 17 (he.2.1 rfl);have h23:=eT 23 (he.1 rfl);exact yZ h17 rfl
       ·exact fun _ _ _ _ _ e=>goOn_plain rfl (stepG_pk rfl (e.1 rfl) rfl (e.2.1 rfl))
       ·exact fun _ _ _ _ _ e=>xM rfl (e.1 rfl)
       ·exact fun _ _ a _ _ e=>yM (e.1 rfl) rfl (a 0 rfl)
       ·exact fun _ _ a _ _ e=>yM (e.1 rfl) rfl (a 3 rfl)
       ·exact fun _ _ _ _ _ e=>goOn_yes rfl rfl (e.2.2.1 rfl) (xI rfl Tryz.underlying27 b1 o1 (i+1) (hkl) (e.1 rfl) (e.2.1 rfl))
       ·exact fun _ _ _ _ _ e=>goOn_yes rfl rfl (e.2.1 rfl) (xF1 rfl (e.1 rfl))
       ·exact fun _ _ _ hL _ e=>goOn_yes rfl rfl (e.2.1 rfl) (xL rfl (cells_rat (hC.on (hbr.trans (hL.below.mono hbr.size)))) Tryz.underlying41 (hl1) (e.1 rfl))
       ·intro A w1 hA hL hS he;have hb:=hS rfl;have h26:=eT 26 (he.2.1 rfl);have h31:=eT 31 (he.1 rfl);have hf0:=eF A 67;refine goOn_yes rfl rfl h26 ?_;refine stepG_call (f:=67) (args:=#[.agg (r1).toArray]) rfl rfl ?_ ?_
        ·exact gZ
        ·refine (hsg _ (hbr.trans (hb.mono hbr.size))).mono ?_;rintro e w' ⟨rfl,hb'⟩;exact⟨_,rfl,hb',rfl⟩
       ·intro A w1 hA hL hS he;have h26:=eT 26 (he.2.1 rfl);have h32:=eT 32 (he.1 rfl);have hc0:=eC A (.int .i64 0);exact yZ h26 rfl
       ·exact fun _ _ _ _ _ e=>goOn_plain rfl (stepG_pk rfl (e.1 rfl) rfl (e.2.1 rfl))
       ·exact fun _ _ _ _ _ e=>xM rfl (e.1 rfl)
       ·exact fun _ _ a _ _ e=>yM (e.1 rfl) rfl (a 3 rfl)
       ·intro A w1 hA hL hS he;have h35:=eT 35 (he.2.1 rfl);have h36:=eT 36 (he.1 rfl);have hc0:=eC A (.int .i64 0);exact yZ h35 rfl
       ·exact fun _ _ _ _ _ e=>yM (e.2.1 rfl) rfl (e.1 rfl)
       ·exact fun _ _ a _ _ e=>yM (e.1 rfl) rfl (a 0 rfl)
       ·exact fun _ _ a _ _ e=>yM (e.1 rfl) rfl (a 3 rfl)
       ·intro A w1 hA hL hS he;have h38:=eT 38 (he.2.1 rfl);have h40:=eT 40 (he.1 rfl);have hc0:=eC A (.int .i64 1);refine goOn_yes rfl rfl h38 ?_;refine stepG_pure rfl rfl ?_;generalize A.eval=ev at *;go_simp;rw [wrap_id (by omega)]
       ·exact fun _ _ _ _ _ e=>goOn_yes rfl rfl (e.2.2.1 rfl) (xI rfl Tryz.underlying27 b1 o1 i (hil) (e.1 rfl) (e.2.1 rfl))
       ·exact fun _ _ _ _ _ e=>goOn_yes rfl rfl (e.2.1 rfl) (xF0 rfl (e.1 rfl))
       ·exact fun _ _ _ hL _ e=>goOn_yes rfl rfl (e.2.1 rfl) (xL rfl (cells_ex (hCp.on (hbr.trans (hL.below.mono hbr.size)))) Tryz.underlying36 (show (exC s.1).length=4 from rfl) (e.1 rfl))
       ·exact fun _ _ a _ _ e=>yM (e.1 rfl) rfl (a 0 rfl)
       ·exact fun _ _ a _ _ e=>yM (e.1 rfl) rfl (a 3 rfl)
       ·exact fun _ _ _ _ _ e=>goOn_yes rfl rfl (e.2.2.1 rfl) (xI rfl Tryz.underlying27 b1 o1 (i+1) (hkl) (e.1 rfl) (e.2.1 rfl))
       ·exact fun _ _ _ _ _ e=>goOn_yes rfl rfl (e.2.1 rfl) (xF0 rfl (e.1 rfl))
       ·exact fun _ _ _ hL _ e=>goOn_yes rfl rfl (e.2.1 rfl) (xL rfl (cells_ex (hC.on (hbr.trans (hL.below.mono hbr.size)))) Tryz.underlying36 (show (exC t.1).length=4 from rfl) (e.1 rfl))
       ·intro A w1 hA hL hS he;have hb:=hS rfl;have h38:=eT 38 (he.2.2.1 rfl);have h44:=eT 44 (he.1 rfl);have h49:=eT 49 (he.2.1 rfl);have hf0:=eF A 68;refine goOn_yes rfl rfl h38 ?_;refine stepG_call (f:=68) (args:=#[.agg (exC s.1).toArray,.agg (exC t.1).toArray]) rfl rfl ?_ ?_
        ·exact gZ
        ·refine (hgt ▸ greater_any s.1 t.1 _).mono ?_;rintro e w' ⟨rfl,hb'⟩;exact⟨_,rfl,hb',rfl⟩
       ·intro A w1 hA hL hS he;have h38:=eT 38 (he.2.1 rfl);have h50:=eT 50 (he.1 rfl);exact yZ h38 rfl
       ·exact fun _ _ _ _ _ e=>goOn_yes rfl rfl (e.2.2.1 rfl) (stepG_pk rfl (e.1 rfl) rfl (e.2.1 rfl))
       ·exact fun _ _ _ _ _ e=>goOn_plain rfl (stepG_pk rfl (e.1 rfl) rfl (e.2.1 rfl))
       ·intro W2 hL2;simp only [TailL,FactL.eq,FactL.ret,List.length_cons,List.length_nil,List.drop_succ_cons,List.drop_zero];go_frame;go_wp2;go_roundw
        case rel=>exact⟨i+1+1,by omega,by go_num,hst,hbr.trans (hL2.below.mono hbr.size)⟩
        case measure=>simp [intOf];omega
      ·have hg':s.1.gt t.1=false:=by simpa using hg
       have hgt:=hg';have hst:=hstop (by simp [okAt,hjq,hji,hg']);clear hstep hstop hpre hjq hji hn hc hg hg';refine wp_region_L mixed (none) (0) (Okr.none) [.eq (.slice (some ⟨b1,o1,none⟩) l.length cp),.eq (.int .i64 (i+1:Nat)),.eq (.pointer (some ⟨b1,o1+(i+1)*8,none⟩)),.eq (.pointer (some ⟨b1,o1+(i+1)*8,none⟩)),.eq (.agg (exC t.1).toArray),.ret (.bool true),.eq (.bool false),.eq (.bool false),.eq (.slice (some ⟨b1,o1,none⟩) l.length cp),.eq (.int .i64 (i+1:Nat)),.eq (.pointer (some ⟨b1,o1+(i+1)*8,none⟩)),.eq (.pointer (some ⟨b1,o1+(i+1)*8+4,none⟩)),.eq (.agg (r1).toArray),.ret (.bool true),.eq (.bool false),.eq (.bool false),.eq (.bool false),.eq (.slice (some ⟨b1,o1,none⟩) l.length cp),.eq (.int .i64 (i+1:Nat)),.eq (.pointer (some ⟨b1,o1+(i+1)*8,none⟩)),.eq (.pointer (some ⟨b1,o1+(i+1)*8+4,none⟩)),.eq (.agg (r1).toArray),.ret (.int .i64 sg),.eq (.bool false),.eq (.bool false),.eq (.bool false),.eq (.int .i64 (i+1:Nat)),.eq (.bool true),.eq (.bool true),.eq (.slice (some ⟨b1,o1,none⟩) l.length cp),.eq (.int .i64 (i+1:Nat)),.eq (.int .i64 i),.eq (.pointer (some ⟨b1,o1+i*8,none⟩)),.eq (.pointer (some ⟨b1,o1+i*8,none⟩)),.eq (.agg (exC s.1).toArray),.eq (.slice (some ⟨b1,o1,none⟩) l.length cp),.eq (.int .i64 (i+1:Nat)),.eq (.pointer (some ⟨b1,o1+(i+1)*8,none⟩)),.eq (.pointer (some ⟨b1,o1+(i+1)*8,none⟩)),.eq (.agg (exC t.1).toArray),.ret (.bool false),.eq (.bool true),.eq (.bool true),.eq (.bool true)] [10,11,12,13,14,15,16,17,18,19,20,21,22,23,24,25,26,27,28,29,30,31,32,33,34,35,36,37,38,39,40,41,42,43,44,45,46,47,48,49,50,51,52,53] rfl rfl rfl rfl ⟨?_,?_,?_,?_,?_,?_,?_,?_,?_,?_,?_,?_,?_,?_,?_,?_,?_,?_,?_,?_,?_,?_,?_,?_,?_,?_,?_,?_,?_,?_,?_,?_,?_,?_,?_,?_,?_,?_,?_,?_,?_,?_,?_,?_,trivial⟩ ?_
       ·exact fun _ _ a _ _ _=>xM rfl (a 0 rfl)
       ·exact fun _ _ a _ _ _=>xM rfl (a 3 rfl)
       ·exact fun _ _ _ _ _ e=>pI rfl Tryz.underlying27 b1 o1 (i+1) (hkl) (e.1 rfl) (e.2.1 rfl)
       ·exact fun _ _ _ _ _ e=>goOn_plain rfl (xF0 rfl (e.1 rfl))
       ·exact fun _ _ _ hL _ e=>pL rfl (cells_ex (hC.on (hbr.trans (hL.below.mono hbr.size)))) Tryz.underlying36 (show (exC t.1).length=4 from rfl) (e.1 rfl)
       ·intro A w1 hA hL hS he;have hb:=hS rfl;have h14:=eT 14 (he.1 rfl);have hf0:=eF A 65;refine goOn_plain rfl ?_;refine stepG_call (f:=65) (args:=#[.agg (exC t.1).toArray]) rfl rfl ?_ ?_
        ·exact gZ
        ·refine (hnt ▸ natural7_any t.1 _).mono ?_;rintro e w' ⟨rfl,hb'⟩;exact⟨_,rfl,hb',rfl⟩
       ·intro A w1 hA hL hS he;have h15:=eT 15 (he.1 rfl);exact pZ rfl
       ·exact fun _ _ _ _ _ e=>xM rfl (e.1 rfl)
       ·exact fun _ _ a _ _ e=>yM (e.1 rfl) rfl (a 0 rfl)
       ·exact fun _ _ a _ _ e=>yM (e.1 rfl) rfl (a 3 rfl)
       ·exact fun _ _ _ _ _ e=>goOn_yes rfl rfl (e.2.2.1 rfl) (xI rfl Tryz.underlying27 b1 o1 (i+1) (hkl) (e.1 rfl) (e.2.1 rfl))
       ·exact fun _ _ _ _ _ e=>goOn_yes rfl rfl (e.2.1 rfl) (xF1 rfl (e.1 rfl))
       ·exact fun _ _ _ hL _ e=>goOn_yes rfl rfl (e.2.1 rfl) (xL rfl (cells_rat (hC.on (hbr.trans (hL.below.mono hbr.size)))) Tryz.underlying41 (hl1) (e.1 rfl))
       ·intro A w1 hA hL hS he;have hb:=hS rfl;have h17:=eT 17 (he.2.1 rfl);have h22:=eT 22 (he.1 rfl);have hf0:=eF A 66;refine goOn_yes rfl rfl h17 ?_;refine stepG_call (f:=66) (args:=#[.agg (r1).toArray]) rfl rfl ?_ ?_
        ·exact gZ
        ·refine (valid2_any _ _ _ (hr1.on (hbr.trans (hb.mono hbr.size))).rat hkt).mono ?_;rintro e w' ⟨rfl,hb'⟩;exact⟨_,rfl,hb',rfl⟩
       ·intro A w1 hA hL hS he;have h17:=eT 17 (he.2.1 rfl);have h23:=eT 23 (he.1 rfl);exact yZ h17 rfl
       ·exact fun _ _ _ _ _ e=>goOn_plain rfl (stepG_pk rfl (e.1 rfl) rfl (e.2.1 rfl))
       ·exact fun _ _ _ _ _ e=>xM rfl (e.1 rfl)
       ·exact fun _ _ a _ _ e=>yM (e.1 rfl) rfl (a 0 rfl)
       ·exact fun _ _ a _ _ e=>yM (e.1 rfl) rfl (a 3 rfl)
       ·exact fun _ _ _ _ _ e=>goOn_yes rfl rfl (e.2.2.1 rfl) (xI rfl Tryz.underlying27 b1 o1 (i+1) (hkl) (e.1 rfl) (e.2.1 rfl))
       ·exact fun _ _ _ _ _ e=>goOn_yes rfl rfl (e.2.1 rfl) (xF1 rfl (e.1 rfl))
       ·exact fun _ _ _ hL _ e=>goOn_yes rfl rfl (e.2.1 rfl) (xL rfl (cells_rat (hC.on (hbr.trans (hL.below.mono hbr.size)))) Tryz.underlying41 (hl1) (e.1 rfl))
       ·intro A w1 hA hL hS he;have hb:=hS rfl;have h26:=eT 26 (he.2.1 rfl);have h31:=eT 31 (he.1 rfl);have hf0:=eF A 67;refine goOn_yes rfl rfl h26 ?_;refine stepG_call (f:=67) (args:=#[.agg (r1).toArray]) rfl rfl ?_ ?_
        ·exact gZ
        ·refine (hsg _ (hbr.trans (hb.mono hbr.size))).mono ?_;rintro e w' ⟨rfl,hb'⟩;exact⟨_,rfl,hb',rfl⟩
       ·intro A w1 hA hL hS he;have h26:=eT 26 (he.2.1 rfl);have h32:=eT 32 (he.1 rfl);have hc0:=eC A (.int .i64 0);exact yZ h26 rfl
       ·exact fun _ _ _ _ _ e=>goOn_plain rfl (stepG_pk rfl (e.1 rfl) rfl (e.2.1 rfl))
       ·exact fun _ _ _ _ _ e=>xM rfl (e.1 rfl)
       ·exact fun _ _ a _ _ e=>yM (e.1 rfl) rfl (a 3 rfl)
       ·intro A w1 hA hL hS he;have h35:=eT 35 (he.2.1 rfl);have h36:=eT 36 (he.1 rfl);have hc0:=eC A (.int .i64 0);exact yZ h35 rfl
       ·exact fun _ _ _ _ _ e=>yM (e.2.1 rfl) rfl (e.1 rfl)
       ·exact fun _ _ a _ _ e=>yM (e.1 rfl) rfl (a 0 rfl)
       ·exact fun _ _ a _ _ e=>yM (e.1 rfl) rfl (a 3 rfl)
       ·intro A w1 hA hL hS he;have h38:=eT 38 (he.2.1 rfl);have h40:=eT 40 (he.1 rfl);have hc0:=eC A (.int .i64 1);refine goOn_yes rfl rfl h38 ?_;refine stepG_pure rfl rfl ?_;generalize A.eval=ev at *;go_simp;rw [wrap_id (by omega)]
       ·exact fun _ _ _ _ _ e=>goOn_yes rfl rfl (e.2.2.1 rfl) (xI rfl Tryz.underlying27 b1 o1 i (hil) (e.1 rfl) (e.2.1 rfl))
       ·exact fun _ _ _ _ _ e=>goOn_yes rfl rfl (e.2.1 rfl) (xF0 rfl (e.1 rfl))
       ·exact fun _ _ _ hL _ e=>goOn_yes rfl rfl (e.2.1 rfl) (xL rfl (cells_ex (hCp.on (hbr.trans (hL.below.mono hbr.size)))) Tryz.underlying36 (show (exC s.1).length=4 from rfl) (e.1 rfl))
       ·exact fun _ _ a _ _ e=>yM (e.1 rfl) rfl (a 0 rfl)
       ·exact fun _ _ a _ _ e=>yM (e.1 rfl) rfl (a 3 rfl)
       ·exact fun _ _ _ _ _ e=>goOn_yes rfl rfl (e.2.2.1 rfl) (xI rfl Tryz.underlying27 b1 o1 (i+1) (hkl) (e.1 rfl) (e.2.1 rfl))
       ·exact fun _ _ _ _ _ e=>goOn_yes rfl rfl (e.2.1 rfl) (xF0 rfl (e.1 rfl))
       ·exact fun _ _ _ hL _ e=>goOn_yes rfl rfl (e.2.1 rfl) (xL rfl (cells_ex (hC.on (hbr.trans (hL.below.mono hbr.size)))) Tryz.underlying36 (show (exC t.1).length=4 from rfl) (e.1 rfl))
       ·intro A w1 hA hL hS he;have hb:=hS rfl;have h38:=eT 38 (he.2.2.1 rfl);have h44:=eT 44 (he.1 rfl);have h49:=eT 49 (he.2.1 rfl);have hf0:=eF A 68;refine goOn_yes rfl rfl h38 ?_;refine stepG_call (f:=68) (args:=#[.agg (exC s.1).toArray,.agg (exC t.1).toArray]) rfl rfl ?_ ?_
        ·exact gZ
        ·refine (hgt ▸ greater_any s.1 t.1 _).mono ?_;rintro e w' ⟨rfl,hb'⟩;exact⟨_,rfl,hb',rfl⟩
       ·intro A w1 hA hL hS he;have h38:=eT 38 (he.2.1 rfl);have h50:=eT 50 (he.1 rfl);exact yZ h38 rfl
       ·exact fun _ _ _ _ _ e=>goOn_yes rfl rfl (e.2.2.1 rfl) (stepG_pk rfl (e.1 rfl) rfl (e.2.1 rfl))
       ·exact fun _ _ _ _ _ e=>goOn_plain rfl (stepG_pk rfl (e.1 rfl) rfl (e.2.1 rfl))
       ·intro W2 hL2;simp only [TailL,FactL.eq,FactL.ret,List.length_cons,List.length_nil,List.drop_succ_cons,List.drop_zero];go_frame;go_wp2;go_ret;exact⟨by rw [hst.out] <;> rfl,hbr.trans (hL2.below.mono hbr.size)⟩
   ·have hn':t.1.nat=false:=by simpa using hn
    have hnt:=hn';have hst:=hstop (by simp [okAt,hjq,hn']);clear hstep hstop hpre hjq hn hn';refine wp_region_L mixed (none) (0) (Okr.none) [.eq (.slice (some ⟨b1,o1,none⟩) l.length cp),.eq (.int .i64 k),.eq (.pointer (some ⟨b1,o1+k*8,none⟩)),.eq (.pointer (some ⟨b1,o1+k*8,none⟩)),.eq (.agg (exC t.1).toArray),.ret (.bool false),.eq (.bool true),.eq (.bool true),.eq undef,.eq undef,.eq undef,.eq undef,.eq undef,.eq undef,.eq undef,.eq (.bool true),.eq (.bool true),.eq undef,.eq undef,.eq undef,.eq undef,.eq undef,.eq undef,.eq undef,.eq (.bool true),.eq (.bool true),.eq undef,.eq undef,.eq undef,.eq undef,.eq undef,.eq undef,.eq undef,.eq undef,.eq undef,.eq undef,.eq undef,.eq undef,.eq undef,.eq undef,.eq undef,.eq undef,.eq undef,.eq (.bool true)] [10,11,12,13,14,15,16,17,18,19,20,21,22,23,24,25,26,27,28,29,30,31,32,33,34,35,36,37,38,39,40,41,42,43,44,45,46,47,48,49,50,51,52,53] rfl rfl rfl rfl ⟨?_,?_,?_,?_,?_,?_,?_,?_,?_,?_,?_,?_,?_,?_,?_,?_,?_,?_,?_,?_,?_,?_,?_,?_,?_,?_,?_,?_,?_,?_,?_,?_,?_,?_,?_,?_,?_,?_,?_,?_,?_,?_,?_,?_,trivial⟩ ?_
    ·exact fun _ _ a _ _ _=>xM rfl (a 0 rfl)
    ·exact fun _ _ a _ _ _=>xM rfl (a 3 rfl)
    ·exact fun _ _ _ _ _ e=>pI rfl Tryz.underlying27 b1 o1 k (hkl) (e.1 rfl) (e.2.1 rfl)
    ·exact fun _ _ _ _ _ e=>goOn_plain rfl (xF0 rfl (e.1 rfl))
    ·exact fun _ _ _ hL _ e=>pL rfl (cells_ex (hC.on (hbr.trans (hL.below.mono hbr.size)))) Tryz.underlying36 (show (exC t.1).length=4 from rfl) (e.1 rfl)
    ·intro A w1 hA hL hS he;have hb:=hS rfl;have h14:=eT 14 (he.1 rfl);have hf0:=eF A 65;refine goOn_plain rfl ?_;refine stepG_call (f:=65) (args:=#[.agg (exC t.1).toArray]) rfl rfl ?_ ?_
     ·exact gZ
     ·refine (hnt ▸ natural7_any t.1 _).mono ?_;rintro e w' ⟨rfl,hb'⟩;exact⟨_,rfl,hb',rfl⟩
    ·intro A w1 hA hL hS he;have h15:=eT 15 (he.1 rfl);exact pZ rfl
    ·exact fun _ _ _ _ _ e=>xM rfl (e.1 rfl)
    ·exact fun _ _ _ _ _ e=>goOn_no (x:=true) rfl rfl (e.1 rfl) rfl rfl
    ·exact fun _ _ _ _ _ e=>goOn_no (x:=true) rfl rfl (e.1 rfl) rfl rfl
    ·exact fun _ _ _ _ _ e=>goOn_no (x:=true) rfl rfl (e.2.2.1 rfl) rfl rfl
    ·exact fun _ _ _ _ _ e=>goOn_no (x:=true) rfl rfl (e.2.1 rfl) rfl rfl
    ·exact fun _ _ _ _ _ e=>goOn_no (x:=true) rfl rfl (e.2.1 rfl) rfl rfl
    ·exact fun _ _ _ _ _ e=>goOn_no (x:=true) rfl rfl (e.2.1 rfl) rfl rfl
    ·exact fun _ _ _ _ _ e=>goOn_no (x:=true) rfl rfl (e.2.1 rfl) rfl rfl
    ·exact fun _ _ _ _ _ e=>goOn_plain rfl (stepG_pk rfl (e.1 rfl) rfl rfl)
    ·exact fun _ _ _ _ _ e=>xM rfl (e.1 rfl)
    ·exact fun _ _ _ _ _ e=>goOn_no (x:=true) rfl rfl (e.1 rfl) rfl rfl
    ·exact fun _ _ _ _ _ e=>goOn_no (x:=true) rfl rfl (e.1 rfl) rfl rfl
    ·exact fun _ _ _ _ _ e=>goOn_no (x:=true) rfl rfl (e.2.2.1 rfl) rfl rfl
    ·exact fun _ _ _ _ _ e=>goOn_no (x:=true) rfl rfl (e.2.1 rfl) rfl rfl
    ·exact fun _ _ _ _ _ e=>goOn_no (x:=true) rfl rfl (e.2.1 rfl) rfl rfl
    ·exact fun _ _ _ _ _ e=>goOn_no (x:=true) rfl rfl (e.2.1 rfl) rfl rfl
    ·exact fun _ _ _ _ _ e=>goOn_no (x:=true) rfl rfl (e.2.1 rfl) rfl rfl
    ·exact fun _ _ _ _ _ e=>goOn_plain rfl (stepG_pk rfl (e.1 rfl) rfl rfl)
    ·exact fun _ _ _ _ _ e=>xM rfl (e.1 rfl)
    ·exact fun _ _ _ _ _ e=>goOn_no (x:=true) rfl rfl (e.1 rfl) rfl rfl
    ·exact fun _ _ _ _ _ e=>goOn_no (x:=true) rfl rfl (e.2.1 rfl) rfl rfl
    ·exact fun _ _ _ _ _ e=>goOn_no (x:=true) rfl rfl (e.2.1 rfl) rfl rfl
    ·exact fun _ _ _ _ _ e=>goOn_undef rfl rfl (e.1 rfl) rfl
    ·exact fun _ _ _ _ _ e=>goOn_undef rfl rfl (e.1 rfl) rfl
    ·exact fun _ _ _ _ _ e=>goOn_undef rfl rfl (e.2.1 rfl) rfl
    ·exact fun _ _ _ _ _ e=>goOn_undef rfl rfl (e.2.2.1 rfl) rfl
    ·exact fun _ _ _ _ _ e=>goOn_undef rfl rfl (e.2.1 rfl) rfl
    ·exact fun _ _ _ _ _ e=>goOn_undef rfl rfl (e.2.1 rfl) rfl
    ·exact fun _ _ _ _ _ e=>goOn_undef rfl rfl (e.1 rfl) rfl
    ·exact fun _ _ _ _ _ e=>goOn_undef rfl rfl (e.1 rfl) rfl
    ·exact fun _ _ _ _ _ e=>goOn_undef rfl rfl (e.2.2.1 rfl) rfl
    ·exact fun _ _ _ _ _ e=>goOn_undef rfl rfl (e.2.1 rfl) rfl
    ·exact fun _ _ _ _ _ e=>goOn_undef rfl rfl (e.2.1 rfl) rfl
    ·exact fun _ _ _ _ _ e=>goOn_undef rfl rfl (e.2.2.1 rfl) rfl
    ·exact fun _ _ _ _ _ e=>goOn_undef rfl rfl (e.2.1 rfl) rfl
    ·exact fun _ _ _ _ _ e=>goOn_no (x:=true) rfl rfl (e.2.2.1 rfl) rfl rfl
    ·exact fun _ _ _ _ _ e=>goOn_plain rfl (stepG_pk rfl (e.1 rfl) rfl rfl)
    ·intro W2 hL2;simp only [TailL,FactL.eq,FactL.ret,List.length_cons,List.length_nil,List.drop_succ_cons,List.drop_zero];go_frame;go_wp2;go_ret;exact⟨by rw [hst.out] <;> rfl,hbr.trans (hL2.below.mono hbr.size)⟩
  ·obtain rfl:k=l.length:=by omega
   have hst:Hid (R=true):=hall.out.2 (fun i hi=>hpre.out i hi);go_wp2;go_ret;exact⟨by rw [hst.out] <;> rfl,hbr⟩
end Go.Proofs.YtopclbeomcggiaaGreat
end
section
namespace Go.Proofs.YtopclbeomcggiaaGreat
open Go.RowKit Q Go.WideMaps Go.Maps
end Go.Proofs.YtopclbeomcggiaaGreat
end
