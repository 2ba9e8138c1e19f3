/- The reference's polynomials: Add. mpoly.Div. -/
import Derived.Test.YtopclbeomcggiaaGreatC02
import Derived.Test.YtopclbeomcggiaaGreatC20
import Derived.Test.YtopclbeomcggiaaGreatC28
set_option linter.unusedVariables false
set_option linter.unusedSimpArgs false
set_option maxHeartbeats 16000000
set_option maxRecDepth 100000
section
namespace Q
def mg1:List Trm->List Trm->Bool
|_,[]=>true
|[],_::_=>false
|s::_,t::_=>s.1.gt t.1
def mg2:List Trm->List Trm->Bool
|[],_=>true
|_::_,[]=>false
|s::_,t::_=>t.1.gt s.1
theorem mg1_true {P Q:List Trm} (h:mg1 P Q=true) (hne:P≠[]\/Q≠[]):∃ s P2,P=s::P2/\mergeP P Q=s::mergeP P2 Q:=by
 cases Q with
|nil=>cases P with
 |nil=>simp at hne
 |cons s P2=>exact⟨s,P2,rfl,by rw [Q.mergeP_nil,Q.mergeP_nil]⟩
|cons t Q2=>cases P with
 |nil=>cases h
 |cons s P2=>exact⟨s,P2,rfl,Go.Proofs.YtopclbeomcggiaaGreat.mergeP_gt h⟩
theorem mg1_false {P Q:List Trm} (h:mg1 P Q=false):∃ t Q2,Q=t::Q2:=by
 cases Q with
|nil=>cases P <;> cases h
|cons t Q2=>exact⟨t,Q2,rfl⟩
theorem mg2_true {P Q2:List Trm} {t:Trm} (h:mg2 P (t::Q2)=true):mergeP P (t::Q2)=t::mergeP P Q2:=by
 cases P with
|nil=>rw [mergeP_nil',mergeP_nil']
|cons s P2=>exact Go.Proofs.YtopclbeomcggiaaGreat.mergeP_lt h
theorem mg2_false {P Q2:List Trm} {t:Trm} (h1:mg1 P (t::Q2)=false) (h:mg2 P (t::Q2)=false):∃ s P2,P=s::P2/\s.1=t.1/\mergeP P (t::Q2)=if s.2+t.2=0 then mergeP P2 Q2 else (s.1,s.2+t.2)::mergeP P2 Q2:=by
 cases P with
|nil=>cases h
|cons s P2 =>
  have he:s.1=t.1:=by
   rcases Classical.em (s.1=t.1) with e|e
   ·exact e
   ·have:=Ex.gt_total (show s.1.gt t.1=false from h1) e;rw [show t.1.gt s.1=false from h] at this;cases this
  exact⟨s,P2,rfl,he,Go.Proofs.YtopclbeomcggiaaGreat.mergeP_eq' he⟩
end Q
namespace Go.Proofs.YtopclbeomcggiaaGreat
open Go.RowKit Q Go.WideMaps Go.Maps
theorem add7_own (vp vq:Value) (p q:List Trm) (w:World) (hp:IsPoly w vp p) (hq:IsPoly w vq q) (rp:∀ t∈p,Rs t.2) (rq:∀ t∈q,Rs t.2) (lp:p.length<=100000000) (lq:q.length<=100000000) :
  Calls Tryz.prog 39 #[vp,vq] w (RetOwn w (mergeP p q)):=by
 obtain⟨ap,cp,rfl,hcp⟩:=hp.shape;obtain⟨aq,cq,rfl,hcq⟩:=hq.shape;replace rp:=zH rp;replace rq:=zH rq;obtain⟨R,hR⟩:∃ R,R=mergeP p q:=⟨_,rfl⟩;rw [<- hR];replace hR:=zH hR
 go_enter Tryz.func39,Tryz.ntmps39
 go_wp2;have hown0:=own_lit0 elTerm w;have hb0:Below w.heap.size w (w.alloc (.cells #[] monoT)):=(Below.refl _ _).alloc (Nat.le_refl _) _;change OwnPoly w.heap.size (w.alloc (.cells #[] 43)) _ _ at hown0;change Below w.heap.size w (w.alloc (.cells #[] 43)) at hb0;replace hp:=zH hp;replace hq:=zH hq
 go_loopw [5,6,7] (fun o vi vj wr=>∃ (i j:Nat) (M:List Trm),vi=.int .i64 i/\vj=.int .i64 j/\i<=p.length/\j<=q.length/\Hid (OwnPoly w.heap.size wr o M)/\Hid (R=M++mergeP (p.drop i) (q.drop j))/\M.length<=i+j/\Below w.heap.size w wr) (fun _ vi vj _=>p.length+q.length-((intOf vi).toNat+(intOf vj).toNat))
 case atStart=>exact⟨0,0,[],rfl,rfl,by omega,by omega,zH hown0,zH (by simpa using hR.out),by simp,hb0⟩
 case round =>
  clear hown0 hb0;obtain⟨i,j,M,rfl,rfl,hi,hj,hown,hR,hM,hbr⟩:=hrel;by_cases hd:i<p.length\/j<q.length
  ·have hnd:p.drop i≠[]\/q.drop j≠[]:=by
    rcases hd with h|h
    ·left;intro e;have:=congrArg List.length e;simp at this;omega
    ·right;intro e;have:=congrArg List.length e;simp at this;omega
   have hd1:¬ i<p.length->j<q.length:=fun h=>by omega
   replace hnd:=zH hnd;clear hd
   go_upto_region 2 with (fail)
   go_cut [10,11,12,13,14,15,16,17,18,19] (fun _ _ _ _ _ _ _ _ _ v19 wc=>v19=.bool true/\wr=wc)
   case first =>
    by_cases hil:i<p.length
    ·have g1:(i:Int)<(p.length:Int):=by omega
     go_wp2;go_meet
     case rel=>exact⟨rfl,rfl⟩
    ·have g1:¬ (i:Int)<(p.length:Int):=by omega
     have g2:(j:Int)<(q.length:Int):=by have:=hd1 hil;omega
     go_wp2;go_meet
     case rel=>exact⟨rfl,rfl⟩
   case rest =>
   obtain⟨rfl,rfl⟩:=hcut
   go_upto_region 3 with (fail)
   obtain⟨g1,hg1⟩:∃ g,g=mg1 (p.drop i) (q.drop j):=⟨_,rfl⟩;replace hg1:=zH hg1
   go_cut [20,21,22,23,24,25,26,27,28,29,30,31,32,33,34,35,36,37,38,39,40,41,42] (fun _ _ _ _ _ _ _ _ _ _ _ _ _ _ _ _ _ _ _ _ _ _ v42 wc=>v42=.bool g1/\Below wr.heap.size wr wc)
   case first =>
    clear hown hR;by_cases hjl:j<q.length
    ·have e1:((j:Int) == (q.length:Int))=false:=by simp;omega
     have e2:¬ (j:Int)=(q.length:Int):=by omega
     by_cases hil:i<p.length
     ·have e3:(i:Int)<(p.length:Int):=by omega
      have hpi:p[i]?=some p[i]:=List.getElem?_eq_getElem hil;have hqj:q[j]?=some q[j]:=List.getElem?_eq_getElem hjl;have hg:g1=p[i].1.gt q[j].1:=by rw [hg1.out,List.drop_eq_getElem_cons hil,List.drop_eq_getElem_cons hjl];rfl
      generalize p[i]=s at hpi hg;generalize q[j]=t at hqj hg;obtain⟨ba,oa,ra,rfl,hra,hCa⟩:=cell_term hp.out hpi;obtain⟨bq,oq,rb,rfl,hrb,hCb⟩:=cell_term hq.out hqj;refine wp_region_L mixed (none) (0) (Okr.none) [.eq (.int .i64 j),.eq (.slice (some ⟨bq,oq,none⟩) q.length cq),.eq (.int .i64 q.length),.eq (.bool false),.eq (.bool false),.eq (.int .i64 i),.eq (.slice (some ⟨ba,oa,none⟩) p.length cp),.eq (.int .i64 p.length),.eq (.bool true),.eq (.bool true),.eq (.slice (some ⟨ba,oa,none⟩) p.length cp),.eq (.int .i64 i),.eq (.pointer (some ⟨ba,oa+i*8,none⟩)),.eq (.pointer (some ⟨ba,oa+i*8,none⟩)),.eq (.agg (exC s.1).toArray),.eq (.slice (some ⟨bq,oq,none⟩) q.length cq),.eq (.int .i64 j),.eq (.pointer (some ⟨bq,oq+j*8,none⟩)),.eq (.pointer (some ⟨bq,oq+j*8,none⟩)),.eq (.agg (exC t.1).toArray),.ret (.bool (s.1.gt t.1)),.eq (.bool (s.1.gt t.1)),.eq (.bool (s.1.gt t.1))] [20,21,22,23,24,25,26,27,28,29,30,31,32,33,34,35,36,37,38,39,40,41,42] rfl rfl rfl rfl ⟨?_,?_,?_,?_,?_,?_,?_,?_,?_,?_,?_,?_,?_,?_,?_,?_,?_,?_,?_,?_,?_,?_,?_,trivial⟩ ?_
      ·exact fun _ _ a _ _ _=>xM rfl (a 7 rfl)
      ·exact fun _ _ a _ _ _=>xM rfl (a 1 rfl)
      ·intro A w1 hA hL hS he;have h21:=eT 21 (he.1 rfl);exact pZ rfl
      ·intro A w1 hA hL hS he;have h20:=eT 20 (he.1 rfl);have h22:=eT 22 (he.2.1 rfl);exact pZ rfl
      ·exact fun _ _ _ _ _ e=>xM rfl (e.1 rfl)
      ·exact fun _ _ a _ _ e=>yM (e.1 rfl) rfl (a 6 rfl)
      ·exact fun _ _ a _ _ e=>yM (e.1 rfl) rfl (a 0 rfl)
      ·intro A w1 hA hL hS he;have h24:=eT 24 (he.2.1 rfl);have h26:=eT 26 (he.1 rfl);exact yZ h24 rfl
      ·intro A w1 hA hL hS he;have h24:=eT 24 (he.2.2.1 rfl);have h25:=eT 25 (he.1 rfl);have h27:=eT 27 (he.2.1 rfl);exact yZ h24 rfl
      ·exact fun _ _ _ _ _ e=>yM (e.2.1 rfl) rfl (e.1 rfl)
      ·exact fun _ _ a _ _ e=>yM (e.1 rfl) rfl (a 0 rfl)
      ·exact fun _ _ a _ _ e=>yM (e.1 rfl) rfl (a 6 rfl)
      ·exact fun _ _ _ _ _ e=>goOn_yes rfl rfl (e.2.2.1 rfl) (xI rfl Tryz.underlying27 ba oa i (hil) (e.1 rfl) (e.2.1 rfl))
      ·exact fun _ _ _ _ _ e=>goOn_yes rfl rfl (e.2.1 rfl) (xF0 rfl (e.1 rfl))
      ·intro A w1 hA hL hS he;have hb:=hL.below;have hbw:Below w.heap.size w w1:=hbr.trans (hb.mono hbr.size);exact goOn_yes rfl rfl (he.2.1 rfl) (xL rfl (cells_ex (hCa.on hbw)) Tryz.underlying36 (show (exC s.1).length=4 from rfl) (he.1 rfl))
      ·exact fun _ _ a _ _ e=>yM (e.1 rfl) rfl (a 1 rfl)
      ·exact fun _ _ a _ _ e=>yM (e.1 rfl) rfl (a 7 rfl)
      ·exact fun _ _ _ _ _ e=>goOn_yes rfl rfl (e.2.2.1 rfl) (xI rfl Tryz.underlying27 bq oq j (hjl) (e.1 rfl) (e.2.1 rfl))
      ·exact fun _ _ _ _ _ e=>goOn_yes rfl rfl (e.2.1 rfl) (xF0 rfl (e.1 rfl))
      ·intro A w1 hA hL hS he;have hb:=hL.below;have hbw:Below w.heap.size w w1:=hbr.trans (hb.mono hbr.size);exact goOn_yes rfl rfl (he.2.1 rfl) (xL rfl (cells_ex (hCb.on hbw)) Tryz.underlying36 (show (exC t.1).length=4 from rfl) (he.1 rfl))
      ·intro A w1 hA hL hS he;have hb:=hS rfl;have h29:=eT 29 (he.2.2.1 rfl);have h34:=eT 34 (he.1 rfl);have h39:=eT 39 (he.2.1 rfl);have hf0:=eF A 68;refine goOn_yes rfl rfl h29 ?_;refine stepG_call (f:=68) (args:=#[.agg (exC s.1).toArray,.agg (exC t.1).toArray]) rfl rfl ?_ ?_
       ·exact gZ
       ·refine (greater_any s.1 t.1 _).mono ?_;rintro e w' ⟨rfl,hb'⟩;exact⟨_,rfl,hb',rfl⟩
      ·exact fun _ _ _ _ _ e=>goOn_yes rfl rfl (e.2.2.1 rfl) (stepG_pk rfl (e.1 rfl) rfl (e.2.1 rfl))
      ·exact fun _ _ _ _ _ e=>goOn_plain rfl (stepG_pk rfl (e.1 rfl) rfl (e.2.1 rfl))
      ·intro W2 hL2;simp only [TailL,FactL.eq,FactL.ret,List.length_cons,List.length_nil,List.drop_succ_cons,List.drop_zero];go_frame;go_wp2;go_meet
       case rel=>exact⟨by rw [hg],hL2.below⟩
     ·have e3:¬ (i:Int)<(p.length:Int):=by omega
      have hg:g1=false:=by rw [hg1.out,List.drop_of_length_le (by omega),List.drop_eq_getElem_cons hjl];rfl
      refine wp_region_L mixed (none) (0) (Okr.none) [.eq (.int .i64 j),.eq (.slice aq q.length cq),.eq (.int .i64 q.length),.eq (.bool false),.eq (.bool false),.eq (.int .i64 i),.eq (.slice ap p.length cp),.eq (.int .i64 p.length),.eq (.bool false),.eq (.bool false),.eq undef,.eq undef,.eq undef,.eq undef,.eq undef,.eq undef,.eq undef,.eq undef,.eq undef,.eq undef,.eq undef,.eq (.bool false),.eq (.bool false)] [20,21,22,23,24,25,26,27,28,29,30,31,32,33,34,35,36,37,38,39,40,41,42] rfl rfl rfl rfl ⟨?_,?_,?_,?_,?_,?_,?_,?_,?_,?_,?_,?_,?_,?_,?_,?_,?_,?_,?_,?_,?_,?_,?_,trivial⟩ ?_
      ·exact fun _ _ a _ _ _=>xM rfl (a 7 rfl)
      ·exact fun _ _ a _ _ _=>xM rfl (a 1 rfl)
      ·intro A w1 hA hL hS he;have h21:=eT 21 (he.1 rfl);exact pZ rfl
      ·intro A w1 hA hL hS he;have h20:=eT 20 (he.1 rfl);have h22:=eT 22 (he.2.1 rfl);exact pZ rfl
      ·exact fun _ _ _ _ _ e=>xM rfl (e.1 rfl)
      ·exact fun _ _ a _ _ e=>yM (e.1 rfl) rfl (a 6 rfl)
      ·exact fun _ _ a _ _ e=>yM (e.1 rfl) rfl (a 0 rfl)
      ·intro A w1 hA hL hS he;have h24:=eT 24 (he.2.1 rfl);have h26:=eT 26 (he.1 rfl);exact yZ h24 rfl
      ·intro A w1 hA hL hS he;have h24:=eT 24 (he.2.2.1 rfl);have h25:=eT 25 (he.1 rfl);have h27:=eT 27 (he.2.1 rfl);exact yZ h24 rfl
      ·exact fun _ _ _ _ _ e=>yM (e.2.1 rfl) rfl (e.1 rfl)
      ·exact fun _ _ _ _ _ e=>goOn_no (x:=false) rfl rfl (e.1 rfl) rfl rfl
      ·exact fun _ _ _ _ _ e=>goOn_no (x:=false) rfl rfl (e.1 rfl) rfl rfl
      ·exact fun _ _ _ _ _ e=>goOn_no (x:=false) rfl rfl (e.2.2.1 rfl) rfl rfl
      ·exact fun _ _ _ _ _ e=>goOn_no (x:=false) rfl rfl (e.2.1 rfl) rfl rfl
      ·exact fun _ _ _ _ _ e=>goOn_no (x:=false) rfl rfl (e.2.1 rfl) rfl rfl
      ·exact fun _ _ _ _ _ e=>goOn_no (x:=false) rfl rfl (e.1 rfl) rfl rfl
      ·exact fun _ _ _ _ _ e=>goOn_no (x:=false) rfl rfl (e.1 rfl) rfl rfl
      ·exact fun _ _ _ _ _ e=>goOn_no (x:=false) rfl rfl (e.2.2.1 rfl) rfl rfl
      ·exact fun _ _ _ _ _ e=>goOn_no (x:=false) rfl rfl (e.2.1 rfl) rfl rfl
      ·exact fun _ _ _ _ _ e=>goOn_no (x:=false) rfl rfl (e.2.1 rfl) rfl rfl
      ·exact fun _ _ _ _ _ e=>goOn_no (x:=false) rfl rfl (e.2.2.1 rfl) rfl rfl
      ·exact fun _ _ _ _ _ e=>goOn_yes rfl rfl (e.2.2.1 rfl) (stepG_pk rfl (e.1 rfl) rfl rfl)
      ·exact fun _ _ _ _ _ e=>goOn_plain rfl (stepG_pk rfl (e.1 rfl) rfl (e.2.1 rfl))
      ·intro W2 hL2;simp only [TailL,FactL.eq,FactL.ret,List.length_cons,List.length_nil,List.drop_succ_cons,List.drop_zero];go_frame;go_wp2;go_meet
       case rel=>exact⟨by rw [hg],hL2.below⟩
    ·have e2:(j:Int)=(q.length:Int):=by omega
     have e1:((j:Int) == (q.length:Int))=true:=by simp;omega
     have hg:g1=true:=by rw [hg1.out,List.drop_of_length_le (l:=q) (by omega)];rfl
     refine wp_region_L mixed (none) (0) (Okr.none) [.eq (.int .i64 j),.eq (.slice aq q.length cq),.eq (.int .i64 q.length),.eq (.bool true),.eq (.bool true),.eq undef,.eq undef,.eq undef,.eq undef,.eq undef,.eq undef,.eq undef,.eq undef,.eq undef,.eq undef,.eq undef,.eq undef,.eq undef,.eq undef,.eq undef,.eq undef,.eq undef,.eq (.bool true)] [20,21,22,23,24,25,26,27,28,29,30,31,32,33,34,35,36,37,38,39,40,41,42] rfl rfl rfl rfl ⟨?_,?_,?_,?_,?_,?_,?_,?_,?_,?_,?_,?_,?_,?_,?_,?_,?_,?_,?_,?_,?_,?_,?_,trivial⟩ ?_
     ·exact fun _ _ a _ _ _=>xM rfl (a 7 rfl)
     ·exact fun _ _ a _ _ _=>xM rfl (a 1 rfl)
     ·intro A w1 hA hL hS he;have h21:=eT 21 (he.1 rfl);exact pZ rfl
     ·intro A w1 hA hL hS he;have h20:=eT 20 (he.1 rfl);have h22:=eT 22 (he.2.1 rfl);exact pZ rfl
     ·exact fun _ _ _ _ _ e=>xM rfl (e.1 rfl)
     ·exact fun _ _ _ _ _ e=>goOn_no (x:=true) rfl rfl (e.1 rfl) rfl rfl
     ·exact fun _ _ _ _ _ e=>goOn_no (x:=true) rfl rfl (e.1 rfl) rfl rfl
     ·exact fun _ _ _ _ _ e=>goOn_no (x:=true) rfl rfl (e.2.1 rfl) rfl rfl
     ·exact fun _ _ _ _ _ e=>goOn_no (x:=true) rfl rfl (e.2.2.1 rfl) rfl rfl
     ·exact fun _ _ _ _ _ e=>goOn_no (x:=true) rfl rfl (e.2.1 rfl) rfl rfl
     ·exact fun _ _ _ _ _ e=>goOn_undef rfl rfl (e.1 rfl) rfl
     ·exact fun _ _ _ _ _ e=>goOn_undef rfl rfl (e.1 rfl) rfl
     ·exact fun _ _ _ _ _ e=>goOn_undef rfl rfl (e.2.2.1 rfl) rfl
     ·exact fun _ _ _ _ _ e=>goOn_undef rfl rfl (e.2.1 rfl) rfl
     ·exact fun _ _ _ _ _ e=>goOn_undef rfl rfl (e.2.1 rfl) rfl
     ·exact fun _ _ _ _ _ e=>goOn_undef rfl rfl (e.1 rfl) rfl
     ·exact fun _ _ _ _ _ e=>goOn_undef rfl rfl (e.1 rfl) rfl
     ·exact fun _ _ _ _ _ e=>goOn_undef rfl rfl (e.2.2.1 rfl) rfl
     ·exact fun _ _ _ _ _ e=>goOn_undef rfl rfl (e.2.1 rfl) rfl
     ·exact fun _ _ _ _ _ e=>goOn_undef rfl rfl (e.2.1 rfl) rfl
     ·exact fun _ _ _ _ _ e=>goOn_undef rfl rfl (e.2.2.1 rfl) rfl
     ·exact fun _ _ _ _ _ e=>goOn_no (x:=true) rfl rfl (e.2.2.1 rfl) rfl rfl
     ·exact fun _ _ _ _ _ e=>goOn_plain rfl (stepG_pk rfl (e.1 rfl) rfl rfl)
     ·intro W2 hL2;simp only [TailL,FactL.eq,FactL.ret,List.length_cons,List.length_nil,List.drop_succ_cons,List.drop_zero];go_frame;go_wp2;go_meet
      case rel=>exact⟨by rw [hg],hL2.below⟩
   case rest =>
    obtain⟨rfl,hbc⟩:=hcut;replace hbr:=hbr.trans (hbc.mono hbr.size);replace hown:=zH (hown.out.on hbc);clear hbc hd1;cases g1
    ·obtain⟨t,Q2,hQ⟩:=mg1_false hg1.out.symm;obtain⟨hq1,hqj,hjl⟩:=drop_cons' hQ;rw [hQ] at hg1 hR;have hjl':(j:Int)<(q.length:Int):=by omega
     obtain⟨bq,oq,rb,rfl,hrb,hCb⟩:=cell_term hq.out hqj;have hlb:=hrb.len;clear hnd
     go_upto_region 6 with (fail)
     obtain⟨g2,hg2⟩:∃ g,g=mg2 (p.drop i) (t::Q2):=⟨_,rfl⟩;replace hg2:=zH hg2;replace hQ:=zH hQ;replace hq1:=zH hq1
     go_cut [52,53,54,55,56,57,58,59,60,61,62,63,64,65,66,67,68] (fun _ _ _ _ _ _ _ _ _ _ _ _ _ _ _ _ v68 wd=>v68=.bool g2/\Below wc.heap.size wc wd)
     case first =>
      clear hown hR;by_cases hil:i<p.length
      ·have e1:((i:Int) == (p.length:Int))=false:=by simp;omega
       have e2:¬ (i:Int)=(p.length:Int):=by omega
       have hpi:p[i]?=some p[i]:=List.getElem?_eq_getElem hil;have hg:g2=t.1.gt p[i].1:=by rw [hg2.out,List.drop_eq_getElem_cons hil];rfl
       generalize p[i]=s at hpi hg;obtain⟨ba,oa,ra,rfl,hra,hCa⟩:=cell_term hp.out hpi;refine wp_region_L mixed (none) (0) (Okr.none) [.eq (.int .i64 i),.eq (.slice (some ⟨ba,oa,none⟩) p.length cp),.eq (.int .i64 p.length),.eq (.bool false),.eq (.bool false),.eq (.slice (some ⟨bq,oq,none⟩) q.length cq),.eq (.int .i64 j),.eq (.pointer (some ⟨bq,oq+j*8,none⟩)),.eq (.pointer (some ⟨bq,oq+j*8,none⟩)),.eq (.agg (exC t.1).toArray),.eq (.slice (some ⟨ba,oa,none⟩) p.length cp),.eq (.int .i64 i),.eq (.pointer (some ⟨ba,oa+i*8,none⟩)),.eq (.pointer (some ⟨ba,oa+i*8,none⟩)),.eq (.agg (exC s.1).toArray),.ret (.bool (t.1.gt s.1)),.eq (.bool (t.1.gt s.1))] [52,53,54,55,56,57,58,59,60,61,62,63,64,65,66,67,68] rfl rfl rfl rfl ⟨?_,?_,?_,?_,?_,?_,?_,?_,?_,?_,?_,?_,?_,?_,?_,?_,?_,trivial⟩ ?_
       ·exact fun _ _ a _ _ _=>xM rfl (a 6 rfl)
       ·exact fun _ _ a _ _ _=>xM rfl (a 0 rfl)
       ·intro A w1 hA hL hS he;have h53:=eT 53 (he.1 rfl);exact pZ rfl
       ·intro A w1 hA hL hS he;have h52:=eT 52 (he.1 rfl);have h54:=eT 54 (he.2.1 rfl);exact pZ rfl
       ·exact fun _ _ _ _ _ e=>xM rfl (e.1 rfl)
       ·exact fun _ _ a _ _ e=>yM (e.1 rfl) rfl (a 1 rfl)
       ·exact fun _ _ a _ _ e=>yM (e.1 rfl) rfl (a 7 rfl)
       ·exact fun _ _ _ _ _ e=>goOn_yes rfl rfl (e.2.2.1 rfl) (xI rfl Tryz.underlying27 bq oq j (hjl) (e.1 rfl) (e.2.1 rfl))
       ·exact fun _ _ _ _ _ e=>goOn_yes rfl rfl (e.2.1 rfl) (xF0 rfl (e.1 rfl))
       ·intro A w1 hA hL hS he;have hb:=hL.below;have hbw:Below w.heap.size w w1:=hbr.trans (hb.mono hbr.size);exact goOn_yes rfl rfl (he.2.1 rfl) (xL rfl (cells_ex (hCb.on hbw)) Tryz.underlying36 (show (exC t.1).length=4 from rfl) (he.1 rfl))
       ·exact fun _ _ a _ _ e=>yM (e.1 rfl) rfl (a 0 rfl)
       ·exact fun _ _ a _ _ e=>yM (e.1 rfl) rfl (a 6 rfl)
       ·exact fun _ _ _ _ _ e=>goOn_yes rfl rfl (e.2.2.1 rfl) (xI rfl Tryz.underlying27 ba oa i (hil) (e.1 rfl) (e.2.1 rfl))
       ·exact fun _ _ _ _ _ e=>goOn_yes rfl rfl (e.2.1 rfl) (xF0 rfl (e.1 rfl))
       ·intro A w1 hA hL hS he;have hb:=hL.below;have hbw:Below w.heap.size w w1:=hbr.trans (hb.mono hbr.size);exact goOn_yes rfl rfl (he.2.1 rfl) (xL rfl (cells_ex (hCa.on hbw)) Tryz.underlying36 (show (exC s.1).length=4 from rfl) (he.1 rfl))
       ·intro A w1 hA hL hS he;have hb:=hS rfl;have h56:=eT 56 (he.2.2.1 rfl);have h61:=eT 61 (he.1 rfl);have h66:=eT 66 (he.2.1 rfl);have hf0:=eF A 68;refine goOn_yes rfl rfl h56 ?_;refine stepG_call (f:=68) (args:=#[.agg (exC t.1).toArray,.agg (exC s.1).toArray]) rfl rfl ?_ ?_
        ·exact gZ
        ·refine (greater_any t.1 s.1 _).mono ?_;rintro e w' ⟨rfl,hb'⟩;exact⟨_,rfl,hb',rfl⟩
       ·exact fun _ _ _ _ _ e=>goOn_plain rfl (stepG_pk rfl (e.1 rfl) rfl (e.2.1 rfl))
       ·intro W2 hL2;simp only [TailL,FactL.eq,FactL.ret,List.length_cons,List.length_nil,List.drop_succ_cons,List.drop_zero];go_frame;go_wp2;go_meet
        case rel=>exact⟨by rw [hg],hL2.below⟩
      ·have e2:(i:Int)=(p.length:Int):=by omega
       have e1:((i:Int) == (p.length:Int))=true:=by simp;omega
       have hg:g2=true:=by rw [hg2.out,List.drop_of_length_le (l:=p) (by omega)];rfl
       refine wp_region_L mixed (none) (0) (Okr.none) [.eq (.int .i64 i),.eq (.slice ap p.length cp),.eq (.int .i64 p.length),.eq (.bool true),.eq (.bool true),.eq undef,.eq undef,.eq undef,.eq undef,.eq undef,.eq undef,.eq undef,.eq undef,.eq undef,.eq undef,.eq undef,.eq (.bool true)] [52,53,54,55,56,57,58,59,60,61,62,63,64,65,66,67,68] rfl rfl rfl rfl ⟨?_,?_,?_,?_,?_,?_,?_,?_,?_,?_,?_,?_,?_,?_,?_,?_,?_,trivial⟩ ?_
       ·exact fun _ _ a _ _ _=>xM rfl (a 6 rfl)
       ·exact fun _ _ a _ _ _=>xM rfl (a 0 rfl)
       ·intro A w1 hA hL hS he;have h53:=eT 53 (he.1 rfl);exact pZ rfl
       ·intro A w1 hA hL hS he;have h52:=eT 52 (he.1 rfl);have h54:=eT 54 (he.2.1 rfl);exact pZ rfl
       ·exact fun _ _ _ _ _ e=>xM rfl (e.1 rfl)
       ·exact fun _ _ _ _ _ e=>goOn_no (x:=true) rfl rfl (e.1 rfl) rfl rfl
       ·exact fun _ _ _ _ _ e=>goOn_no (x:=true) rfl rfl (e.1 rfl) rfl rfl
       ·exact fun _ _ _ _ _ e=>goOn_no (x:=true) rfl rfl (e.2.2.1 rfl) rfl rfl
       ·exact fun _ _ _ _ _ e=>goOn_no (x:=true) rfl rfl (e.2.1 rfl) rfl rfl
       ·exact fun _ _ _ _ _ e=>goOn_no (x:=true) rfl rfl (e.2.1 rfl) rfl rfl
       ·exact fun _ _ _ _ _ e=>goOn_no (x:=true) rfl rfl (e.1 rfl) rfl rfl
       ·exact fun _ _ _ _ _ e=>goOn_no (x:=true) rfl rfl (e.1 rfl) rfl rfl
       ·exact fun _ _ _ _ _ e=>goOn_no (x:=true) rfl rfl (e.2.2.1 rfl) rfl rfl
       ·exact fun _ _ _ _ _ e=>goOn_no (x:=true) rfl rfl (e.2.1 rfl) rfl rfl
       ·exact fun _ _ _ _ _ e=>goOn_no (x:=true) rfl rfl (e.2.1 rfl) rfl rfl
       ·exact fun _ _ _ _ _ e=>goOn_no (x:=true) rfl rfl (e.2.2.1 rfl) rfl rfl
       ·exact fun _ _ _ _ _ e=>goOn_plain rfl (stepG_pk rfl (e.1 rfl) rfl rfl)
       ·intro W2 hL2;simp only [TailL,FactL.eq,FactL.ret,List.length_cons,List.length_nil,List.drop_succ_cons,List.drop_zero];go_frame;go_wp2;go_meet
        case rel=>exact⟨by rw [hg],hL2.below⟩
     case rest =>
      obtain⟨rfl,hbc⟩:=hcut;replace hbr:=hbr.trans (hbc.mono hbr.size);have hown:=hown.out.on hbc;clear hbc;have hbase:∀ k,u5.ownBlock=some k->w.heap.size<=k:=fun k hk=>(hown.base_le k hk).1;cases g2
      ·obtain⟨s,P2,hP,hst,hmg⟩:=mg2_false hg1.out.symm hg2.out.symm;obtain⟨hp1,hpi,hil⟩:=drop_cons' hP;obtain⟨ba,oa,ra,rfl,hra,hCa⟩:=cell_term hp.out hpi;have hla:=hra.len;have hks:Rs s.2:=rp.out s (List.mem_of_getElem? hpi);have hkt:Rs t.2:=rq.out t (List.mem_of_getElem? hqj);rw [hmg] at hR;have hil':(i:Int)<(p.length:Int):=by omega
       clear hmg hg1 hg2;replace hp1:=zH hp1;replace hP:=zH hP;replace hst:=zH hst
       go_upto_region 9 with (fail)
       refine wp_region_L mixed (none) (0) (Okr.none) [.eq (.slice (some ⟨ba,oa,none⟩) p.length cp),.eq (.int .i64 i),.eq (.pointer (some ⟨ba,oa+i*8,none⟩)),.eq (.pointer (some ⟨ba,oa+i*8+4,none⟩)),.eq (.agg (ra).toArray),.eq (.slice (some ⟨bq,oq,none⟩) q.length cq),.eq (.int .i64 j),.eq (.pointer (some ⟨bq,oq+j*8,none⟩)),.eq (.pointer (some ⟨bq,oq+j*8+4,none⟩)),.eq (.agg (rb).toArray),.rat (by decide) ((s.2+t.2)),.box 41 wc.heap.size [.bool false,.slice none 0 0,.bool false,.slice none 0 0]] [78,79,80,81,82,83,84,85,86,87,88,8] rfl rfl rfl rfl ⟨?_,?_,?_,?_,?_,?_,?_,?_,?_,?_,?_,?_,trivial⟩ ?_
       ·exact fun _ _ a _ _ _=>xM rfl (a 0 rfl)
       ·exact fun _ _ a _ _ _=>xM rfl (a 6 rfl)
       ·exact fun _ _ _ _ _ e=>pI rfl Tryz.underlying27 ba oa i (hil) (e.1 rfl) (e.2.1 rfl)
       ·exact fun _ _ _ _ _ e=>goOn_plain rfl (xF1 rfl (e.1 rfl))
       ·intro A w1 hA hL hS he;have hb:=hL.below;have hbw:Below w.heap.size w w1:=hbr.trans (hb.mono hbr.size);exact pL rfl (cells_rat (hCa.on hbw)) Tryz.underlying41 (hla) (he.1 rfl)
       ·exact fun _ _ a _ _ _=>xM rfl (a 1 rfl)
       ·exact fun _ _ a _ _ _=>xM rfl (a 7 rfl)
       ·exact fun _ _ _ _ _ e=>pI rfl Tryz.underlying27 bq oq j (hjl) (e.1 rfl) (e.2.1 rfl)
       ·exact fun _ _ _ _ _ e=>goOn_plain rfl (xF1 rfl (e.1 rfl))
       ·intro A w1 hA hL hS he;have hb:=hL.below;have hbw:Below w.heap.size w w1:=hbr.trans (hb.mono hbr.size);exact pL rfl (cells_rat (hCb.on hbw)) Tryz.underlying41 (hlb) (he.1 rfl)
       ·intro A w1 hA hL hS he;have hb:=hS rfl;have hbw:Below w.heap.size w w1:=hbr.trans (hb.mono hbr.size);have h82:=eT 82 (he.1 rfl);have h87:=eT 87 (he.2.1 rfl);have hf0:=eF A 81;exact cP (f:=81) (args:=#[.agg (ra).toArray,.agg (rb).toArray]) (add2_any _ _ _ _ _ (hra.on hbw).rat (hrb.on hbw).rat hks hkt)
       ·intro A w1 hA hL hS he;refine goOn_plain rfl ?_;refine stepG_box rfl rfl ((Okr.none).lr hL) hL.1.size (by generalize A.eval=ev at *;go_simp) (fun _ _ h=>h)
       ·intro W2 hL2;have hbW2:=hbr.trans (hL2.below.mono hbr.size);simp only [TailL,FactL.eq,FactL.rat,FactL.box,FactL.of,List.length_cons,List.length_nil,List.drop_succ_cons,List.drop_zero];rintro v88 h88 v8 ⟨x,-,hBx,rfl,B8⟩;obtain⟨n5,a5,k5,c5,n6,a6,k6,c6,rfl⟩:=rat_agg h88;go_frame;have hown2:=hown.on hL2.below;have hxw:w.heap.size<=x:=by have:=hbr.size;omega
        clear hL2
        go_upto_region 10 with (refine wpList_store_blk rfl _ (.tmp 8) (.tmp 88) rfl _ _ _ _ rfl rfl B8 rfl sizeRat isRat_ones ?_;intro W3 R3 gr3)
        have hl3:Lr (some x) 41 W2 W3:=⟨gr3,fun k hk=>by cases hk;exact⟨B8.noOther,R3.noOther⟩⟩
        have hxo:u5.ownBlock≠some x:=by
         intro h;have h1:=(hown2.okr x h).2;exact absurd (h1 _ _ _ B8) (by decide)
        have hown3:=hown2.lr hl3 (elTerm_ok (by decide)) (.inr hxo);have h88':=h88.lr hl3 (by decide);have hbW3:=hbW2.trans (hl3.belowAt hbW2.size (fun k hk=>by cases hk;exact hxw));have hsgn:=fun W hb=>sign2_any _ _ W (h88'.on (w':=W) hb);have y1:=R3.at1 0 _ rfl;have y2:=R3.at1 1 _ rfl;have y3:=R3.at1 2 _ rfl;have y4:=R3.at1 3 _ rfl;clear hl3 gr3 B8 hown2 hbW2;by_cases hz:s.2+t.2=0
        ·have hs0:sgnZ (s.2+t.2).num=0:=by rw [hz];rfl
         rw [if_pos hz] at hR;rw [hs0] at hsgn
         go_wp2_with (go_at_call 67;refine (hsgn _ (Below.refl _ _)).mono ?_;rintro en W4 ⟨rfl,hb4⟩)
         have hown4:=hown3.on hb4;have hbW4:=hbW3.trans (hb4.mono hbW3.size);go_roundw
         case measure=>simp [intOf];omega
         case rel=>exact⟨i+1,j+1,M,by go_num,by go_num,by omega,by omega,zH hown4,zH (by rw [hR.out,hp1.out,hq1.out]),by omega,hbW4⟩
        ·have hs0:=sgnZ_ne hz;rw [if_neg hz] at hR;generalize sgnZ (s.2+t.2).num=sg at hs0 hsgn;have hs1:(sg != 0)=true:=by simpa using hs0
         go_upto_region 11 with (go_at_call 67;refine (hsgn _ (Below.refl _ _)).mono ?_;rintro en W4 ⟨rfl,hb4⟩)
         have hown4:=hown3.on hb4;have hbW4:=hbW3.trans (hb4.mono hbW3.size);have R4:=R3.on hb4;have h884:=h88'.on hb4;have hxo4:some x≠u5.ownBlock:=fun h=>hxo h.symm;obtain⟨rc,hrcE⟩:∃ rc,rc=[Value.bool n5,.slice a5 k5 c5,.bool n6,.slice a6 k6 c6]:=⟨_,rfl⟩;have hrc:rc.length=4:=by rw [hrcE];rfl
         rw [show (Value.agg #[.bool n5,.slice a5 k5 c5,.bool n6,.slice a6 k6 c6])=.agg rc.toArray by rw [hrcE]] at h884;rw [<- hrcE] at R4;clear hbW3 hown3 R3 h88 h88' hsgn y1 y2 y3 y4;refine wp_region_L mixed (u5.ownBlock) (monoT) (hown4.okr) [.eq (u5),.eq (.slice (some ⟨ba,oa,none⟩) p.length cp),.eq (.int .i64 i),.eq (.pointer (some ⟨ba,oa+i*8,none⟩)),.eq (.pointer (some ⟨ba,oa+i*8,none⟩)),.eq (.agg (exC s.1).toArray),.eq (.agg (rc).toArray),.eq (.agg (exC s.1++rc).toArray),.new1 elTerm elTerm_okT ((s.1,s.2+t.2)),.row elTerm (w.heap.size) W4.heap.size (M++[(s.1,s.2+t.2)])] [92,93,94,95,96,97,98,99,100,101] rfl rfl rfl rfl ⟨?_,?_,?_,?_,?_,?_,?_,?_,?_,?_,trivial⟩ ?_
         ·exact fun _ _ a _ _ _=>xM rfl (a 5 rfl)
         ·exact fun _ _ a _ _ _=>xM rfl (a 0 rfl)
         ·exact fun _ _ a _ _ _=>xM rfl (a 6 rfl)
         ·exact fun _ _ _ _ _ e=>pI rfl Tryz.underlying27 ba oa i (hil) (e.1 rfl) (e.2.1 rfl)
         ·exact fun _ _ _ _ _ e=>goOn_plain rfl (xF0 rfl (e.1 rfl))
         ·intro A w1 hA hL hS he;have hbw:Below w.heap.size w w1:=hbW4.trans (hL.belowAt hbW4.size hbase);exact pL rfl (cells_ex (hCa.on hbw)) Tryz.underlying36 (show (exC s.1).length=4 from rfl) (he.1 rfl)
         ·exact fun _ _ a hL _ _=>pL rfl ((R4.lr hL hxo4).range 0 rc (fun j v h=>by rw [Nat.zero_add];exact h)) Tryz.underlying41 (hrc) (a 8 rfl)
         ·intro A w1 hA hL hS he;have h97:=eT 97 (he.1 rfl);have h98:=eT 98 (he.2.1 rfl);exact goOn_plain rfl (stepG_pure rfl rfl (execOp_build rfl (by simp only [List.map_toArray,List.map_cons,List.map_nil,h97,h98];exact run_build37 _ _ _ (hrc))))
         ·intro A w1 hA hL hS he;have hb:=hS rfl;have h99:=eT 99 (he.1 rfl);refine goOn_plain rfl ?_;have hE:(elTerm:El _).E w1 _ ((s.1,s.2+t.2)):=⟨_,rfl,(h884.on hb).cellsC⟩;refine stepG_new1 rfl rfl ((hown4.okr).lr hL) hE (execOp_buildSlice rfl ?_) (fun _ _ h=>h);simp only [List.map_toArray,List.map_cons,List.map_nil,h99];exact run_new1_elTermP _ _ ((elTerm).len hE)
         ·intro A w1 hA hL hS he;have hb:=hS rfl;have hbw:Below w.heap.size w w1:=hbW4.trans (hL.belowAt hbW4.size hbase);have h92:=eT 92 (he.1 rfl);obtain⟨v100,h100,f100⟩:=fT 100 (he.2.1 rfl);exact goOn_plain rfl (stepG_append rfl rfl rfl Tryz.underlying27 info_elTerm h92 h100 (hown4.on hb) rfl rfl (isSl_of_new f100) (by simp;omega) (hbw.size) hL.1.size (fun _ _ h1 h2=>⟨h1,h2⟩))
         ·intro W5 hL5;simp only [TailL,FactL.eq,FactL.new1,FactL.row,FactL.asPure,FactL.of,FactL.fragile,List.length_cons,List.length_nil,List.drop_succ_cons,List.drop_zero];rintro v100 - v101 ⟨hown5,hnew⟩;go_frame;have hbW5:=hbW4.trans (hL5.belowAt hbW4.size hbase);go_wp2;go_roundw
          case measure=>simp [intOf];omega
          case rel=>exact⟨i+1,j+1,M++[(s.1,s.2+t.2)],by go_num,by go_num,by omega,by omega,zH hown5,zH (by rw [hR.out,hp1.out,hq1.out];simp),by simp;omega,hbW5⟩
      ·have hmg:=mg2_true hg2.out.symm;rw [hmg] at hR;clear hmg hg1 hg2;have h8:(exC t.1++rb).length=8:=by rw [List.length_append,hlb];rfl
       go_upto_region 7 with (fail)
       refine wp_region_S trivial (u5.ownBlock) (monoT) (hown.okr) [.eq (u5),.eq (.slice (some ⟨bq,oq,none⟩) q.length cq),.eq (.int .i64 j),.eq (.pointer (some ⟨bq,oq+j*8,none⟩)),.eq (.agg (exC t.1++rb).toArray),.new1 elTerm elTerm_okT (t),.row elTerm (w.heap.size) wc.heap.size (M++[t])] [69,70,71,72,73,74,75] rfl rfl rfl rfl ⟨?_,?_,?_,?_,?_,?_,?_,trivial⟩ ?_
       ·exact fun _ _ a _ _ _=>xM rfl (a 5 rfl)
       ·exact fun _ _ a _ _ _=>xM rfl (a 1 rfl)
       ·exact fun _ _ a _ _ _=>xM rfl (a 7 rfl)
       ·exact fun _ _ _ _ _ e=>pI rfl Tryz.underlying27 bq oq j (hjl) (e.1 rfl) (e.2.1 rfl)
       ·intro A w1 hA hL hS he;have hbw:Below w.heap.size w w1:=hbr.trans (hL.belowAt hbr.size hbase);exact pL rfl ((hCb.on hbw).range) Tryz.underlying43 (h8) (he.1 rfl)
       ·intro A w1 hA hL hS he;have hbw:Below w.heap.size w w1:=hbr.trans (hL.belowAt hbr.size hbase);have h73:=eT 73 (he.1 rfl);refine goOn_plain rfl ?_;have hE:(elTerm:El _).E w1 _ (t):=⟨_,rfl,hrb.on hbw⟩;refine stepG_new1 rfl rfl ((hown.okr).lr hL) hE (execOp_buildSlice rfl ?_) (fun _ _ h=>h);simp only [List.map_toArray,List.map_cons,List.map_nil,h73];exact run_new1_elTermP _ _ ((elTerm).len hE)
       ·intro A w1 hA hL hS he;have hb:=hS rfl;have hbw:Below w.heap.size w w1:=hbr.trans (hL.belowAt hbr.size hbase);have h69:=eT 69 (he.1 rfl);obtain⟨v74,h74,f74⟩:=fT 74 (he.2.1 rfl);exact goOn_plain rfl (stepG_append rfl rfl rfl Tryz.underlying27 info_elTerm h69 h74 (hown.on hb) rfl rfl (isSl_of_new f74) (by simp;omega) (hbw.size) hL.1.size (fun _ _ h1 h2=>⟨h1,h2⟩))
       ·intro W5 hL5;simp only [TailL,FactL.eq,FactL.new1,FactL.row,FactL.asPure,FactL.of,FactL.fragile,List.length_cons,List.length_nil,List.drop_succ_cons,List.drop_zero];rintro v74 - v75 ⟨hown5,hnew⟩;go_frame;have hbW5:=hbr.trans (hL5.belowAt hbr.size hbase);go_wp2;go_roundw
        case measure=>simp [intOf];omega
        case rel=>exact⟨i,j+1,M++[t],rfl,by go_num,by omega,by omega,zH hown5,zH (by rw [hR.out,hq1.out];simp),by simp;omega,hbW5⟩
    ·obtain⟨s,P2,hP,hmg⟩:=mg1_true hg1.out.symm hnd.out;obtain⟨hp1,hpi,hil⟩:=drop_cons' hP;obtain⟨ba,oa,ra,rfl,hra,hCa⟩:=cell_term hp.out hpi;have hla:=hra.len;rw [hmg] at hR;have hil':(i:Int)<(p.length:Int):=by omega
     clear hmg hg1 hnd hP;replace hp1:=zH hp1;have h8:(exC s.1++ra).length=8:=by rw [List.length_append,hla];rfl
     replace hown:=hown.out;have hbase:∀ k,u5.ownBlock=some k->w.heap.size<=k:=fun k hk=>(hown.base_le k hk).1
     go_upto_region 4 with (fail)
     refine wp_region_S trivial (u5.ownBlock) (monoT) (hown.okr) [.eq (u5),.eq (.slice (some ⟨ba,oa,none⟩) p.length cp),.eq (.int .i64 i),.eq (.pointer (some ⟨ba,oa+i*8,none⟩)),.eq (.agg (exC s.1++ra).toArray),.new1 elTerm elTerm_okT (s),.row elTerm (w.heap.size) wc.heap.size (M++[s])] [43,44,45,46,47,48,49] rfl rfl rfl rfl ⟨?_,?_,?_,?_,?_,?_,?_,trivial⟩ ?_
     ·exact fun _ _ a _ _ _=>xM rfl (a 5 rfl)
     ·exact fun _ _ a _ _ _=>xM rfl (a 0 rfl)
     ·exact fun _ _ a _ _ _=>xM rfl (a 6 rfl)
     ·exact fun _ _ _ _ _ e=>pI rfl Tryz.underlying27 ba oa i (hil) (e.1 rfl) (e.2.1 rfl)
     ·intro A w1 hA hL hS he;have hbw:Below w.heap.size w w1:=hbr.trans (hL.belowAt hbr.size hbase);exact pL rfl ((hCa.on hbw).range) Tryz.underlying43 (h8) (he.1 rfl)
     ·intro A w1 hA hL hS he;have hbw:Below w.heap.size w w1:=hbr.trans (hL.belowAt hbr.size hbase);have h47:=eT 47 (he.1 rfl);refine goOn_plain rfl ?_;have hE:(elTerm:El _).E w1 _ (s):=⟨_,rfl,hra.on hbw⟩;refine stepG_new1 rfl rfl ((hown.okr).lr hL) hE (execOp_buildSlice rfl ?_) (fun _ _ h=>h);simp only [List.map_toArray,List.map_cons,List.map_nil,h47];exact run_new1_elTermP _ _ ((elTerm).len hE)
     ·intro A w1 hA hL hS he;have hb:=hS rfl;have hbw:Below w.heap.size w w1:=hbr.trans (hL.belowAt hbr.size hbase);have h43:=eT 43 (he.1 rfl);obtain⟨v48,h48,f48⟩:=fT 48 (he.2.1 rfl);exact goOn_plain rfl (stepG_append rfl rfl rfl Tryz.underlying27 info_elTerm h43 h48 (hown.on hb) rfl rfl (isSl_of_new f48) (by simp;omega) (hbw.size) hL.1.size (fun _ _ h1 h2=>⟨h1,h2⟩))
     ·intro W5 hL5;simp only [TailL,FactL.eq,FactL.new1,FactL.row,FactL.asPure,FactL.of,FactL.fragile,List.length_cons,List.length_nil,List.drop_succ_cons,List.drop_zero];rintro v48 - v49 ⟨hown5,hnew⟩;go_frame;have hbW5:=hbr.trans (hL5.belowAt hbr.size hbase);go_wp2;go_roundw
      case measure=>simp [intOf];omega
      case rel=>exact⟨i+1,j,M++[s],by go_num,rfl,by omega,by omega,zH hown5,zH (by rw [hR.out,hp1.out];simp),by simp;omega,hbW5⟩
  ·have hi':i=p.length:=by omega
   have hj':j=q.length:=by omega
   rw [hi',hj',List.drop_length,List.drop_length,mergeP_nil,List.append_nil] at hR;have g1:¬ (i:Int)<(p.length:Int):=by omega
   have g2:¬ (j:Int)<(q.length:Int):=by omega
   clear hi' hj';go_wp2;go_ret;exact⟨_,rfl,by rw [hR.out];exact hown.out,hbr⟩
theorem add7_any (vp vq:Value) (p q:List Trm) (w:World) (hp:IsPoly w vp p) (hq:IsPoly w vq q) (rp:∀ t∈p,Rs t.2) (rq:∀ t∈q,Rs t.2) (lp:p.length<=100000000) (lq:q.length<=100000000) :
  Calls Tryz.prog 39 #[vp,vq] w (RetPoly w (mergeP p q)):=(add7_own vp vq p q w hp hq rp rq lp lq).mono fun _ _ h=>h.poly
end Go.Proofs.YtopclbeomcggiaaGreat
end
section
namespace Q
open Go Go.RowKit
theorem IsSl.lrB {α:Type} {e:El α} {w w':World} {v:Value} {l:List α} {g:Option Nat} {T:TypeId} (h:IsSl e w v l) (hl:Lr g T w w') (hT:e.ok T) (hne:∀ ao n c,v=.slice (some ao) n c->some ao.block≠g):IsSl e w' v l:=by
 obtain⟨ao,cap,xs,rfl,h2,h3,h4⟩:=h;refine⟨ao,cap,xs,rfl,h2,fun hp=>?_,h4.lr hT hl⟩;obtain⟨b,off,e1,hc⟩:=h3 hp;subst e1;exact⟨b,off,rfl,hc.lr' hl (hne _ _ _ rfl)⟩
end Q
namespace Q
open Go Go.RowKit Go.Proofs.YtopclbeomcggiaaGreat
def FactL.own {T:TypeId} (B:Nat) (l:List Trm):FactL (Lr none T):=FactL.of (fun v w=>OwnPoly B w v l) (fun _ _ _ hb h=>h.on hb.below)
end Q
namespace Go.Proofs.YtopclbeomcggiaaGreat
open Go.RowKit Q Go.WideMaps Go.Maps
theorem term_ones' {w:World} {r:List Value} {q:Rat} {e:Ex} (h:IsRatC w r q):(exC e++r).toArray.all (·.oneCell')=true:=by
 rw [Array.all_eq_true_iff_forall_mem];intro v hv;rcases List.mem_append.1 (by simpa using hv) with hv|hv
 ·exact exC_one e v hv
 ·exact h.one v hv
def quoT (m g:Trm):Trm:=(m.1.sub g.1,m.2 / g.2)
structure DivOk (b:List Trm) (g m:Trm) (a:List Trm):Prop where
 he:InR (m.1.sub g.1)
 hm:Rk m.2
 hg:Rk g.2
 hz:g.2≠0
structure DivOk2 (b:List Trm) (g m:Trm) (a:List Trm):Prop where
 hq:Rk (m.2 / g.2)
 hb:(∀ t∈b,InR t.1/\Rk t.2)/\b.length<=100000000
 hp:Okl (prods b [quoT m g])
 ha:(∀ t∈(m::a),Rk t.2)/\(m::a).length<=100000000/\Vld (m::a)
 hc:(∀ t∈mulP b [quoT m g],Rk t.2)/\(mulP b [quoT m g]).length<=100000000
inductive DivR (b:List Trm) (g:Trm):Nat->List Trm->List Trm->Option (List Trm)->Prop
|done {out:List Trm}:DivR b g 0 [] out (some out)
|fail {m:Trm} {a out:List Trm}:(m.1.sub g.1).nat=false->DivOk b g m a->DivR b g 0 (m::a) out none
|step {n:Nat} {m:Trm} {a out:List Trm} {r:Option (List Trm)}:(m.1.sub g.1).nat=true->DivOk b g m a->DivOk2 b g m a->out.length<=100000000 ->
   DivR b g n (subP (m::a) (mulP b [quoT m g])) (out++[quoT m g]) r->DivR b g (n+1) (m::a) out r
theorem DivR.inv {b:List Trm} {g m:Trm} {n:Nat} {a out:List Trm} {r:Option (List Trm)} (h:DivR b g n (m::a) out r) :
  DivOk b g m a/\((m.1.sub g.1).nat=false->r=none)/\((m.1.sub g.1).nat=true->∃ n',n=n'+1/\DivOk2 b g m a/\out.length<=100000000/\DivR b g n' (subP (m::a) (mulP b [quoT m g])) (out++[quoT m g]) r):=by
 cases h with
|fail h1 h2=>exact⟨h2,fun _=>rfl,(fun h=>by rw [h1] at h;cases h)⟩
|step h1 h2 h3 h4 h5=>exact⟨h2,(fun h=>by rw [h1] at h;cases h),fun _=>⟨_,rfl,h3,h4,h5⟩⟩
theorem DivR.inv0 {b:List Trm} {g:Trm} {n:Nat} {out:List Trm} {r:Option (List Trm)} (h:DivR b g n [] out r):r=some out:=by cases h;rfl
def RetDivP (w:World) (r:Option (List Trm)) (e:Ending) (w':World):Prop:=∃ v,e=.returned (.tuple #[v,.bool r.isSome])/\IsPoly w' v (r.getD [])/\Below w.heap.size w w'
theorem div_nil (vp vq:Value) (p:List Trm) (w:World) (hp:IsPoly w vp p) (hq:IsPoly w vq []):Calls Tryz.prog 93 #[vp,vq] w (RetDivP w none):=by
 obtain⟨ap,cp,rfl,hcp⟩:=hp.shape;obtain⟨aq,cq,rfl,hcq⟩:=hq.shape;simp only [List.length_nil]
 go_enter Tryz.func93,Tryz.ntmps93
 go_wp2;go_ret2;exact⟨_,rfl,IsSl.nil _ _,Below.refl _ _⟩
theorem subX (m g:Ex) (v:Nat) (h:v<4):(Ex.sub m g).get v=m.get v-g.get v:=by
 obtain rfl|rfl|rfl|rfl:v=0\/v=1\/v=2\/v=3:=by omega
 all_goals rfl
def subTo (m g:Ex):Nat->Ex
|0=>m
|k+1=>(subTo m g k).put k (m.get k-g.get k)
theorem subTo_full (m g:Ex):subTo m g 4=m.sub g:=rfl
theorem subTo_get (m g:Ex) (k:Nat) (h:k<4):(subTo m g k).get k=m.get k:=by
 obtain rfl|rfl|rfl|rfl:k=0\/k=1\/k=2\/k=3:=by omega
 all_goals rfl
theorem div_any (vp vq:Value) (p b:List Trm) (g:Trm) (n:Nat) (r:Option (List Trm)) (w:World) (hp:IsPoly w vp p) (hq:IsPoly w vq (g::b)) (hd:DivR (g::b) g n p [] r) :
  Calls Tryz.prog 93 #[vp,vq] w (RetDivP w r):=by
 obtain⟨bq,oq,csq,e1,-,hEg,hCg⟩:∃ bq oq cs,(∃ cq,vq=.slice (some ⟨bq,oq,none⟩) (b.length+1) cq)/\True/\IsTerm w cs g/\Cells monoT w bq (oq+0*8) cs:=by
  obtain⟨aq,cq,rfl,hcq⟩:=hq.shape;obtain⟨bq,oq,cs,rfl,-,hE,hC⟩:=hq.get (j:=0) (t:=g) rfl;exact⟨bq,oq,cs,⟨cq,rfl⟩,trivial,hE,hC⟩
 obtain⟨cq,rfl⟩:=e1;obtain⟨rg,rfl,hrg⟩:=hEg;have hlg:=hrg.len;replace hd:=zH hd
 go_enter Tryz.func93,Tryz.ntmps93
 go_wp2
 go_loopg [0,6] n (fun n va vo wr=>∃ a out,Hid (IsPoly wr va a)/\Hid (OwnPoly w.heap.size wr vo out)/\Hid (DivR (g::b) g n a out r)/\Below w.heap.size w wr/\Hid (a≠[]->∀ ao n c,va=.slice (some ao) n c->some ao.block≠vo.ownBlock))
 case atStart=>exact⟨p,[],zH hp,zH (OwnSl.nil _ _ _),hd,Below.refl _ _,zH (fun _ ao n c _ h=>by simp [Value.ownBlock] at h)⟩
 case round =>
  clear hd;obtain⟨a,out,ha,hown,hd,hbr,hap⟩:=hrel
  cases a with
 |nil =>
   have hr:r=some out:=hd.out.inv0;obtain⟨aa,ca,rfl,hca⟩:=ha.out.shape;replace hr:=zH hr;simp only [List.length_nil];go_wp2;go_ret2;exact⟨_,by rw [hr.out];rfl,by rw [hr.out];exact hown.out.isSl,hbr⟩
 |cons m a =>
   obtain⟨hok,hfail,hstep⟩:=hd.out.inv;obtain⟨aa,ca,rfl,hca⟩:=ha.out.shape;obtain⟨ba,oa,csa,rfl,-,hEa,hCa⟩:=ha.out.get (j:=0) (t:=m) rfl;obtain⟨ra,rfl,hra⟩:=hEa;change Cells monoT wr ba (oa+0*8) _ at hCa;have hla:=hra.len;have h8a:(exC m.1++ra).length=8:=by rw [List.length_append,hla];rfl
   have hrga:=hCa.range;rw [Nat.zero_mul,Nat.add_zero] at hrga;have hne1:some ba≠u6.ownBlock:=fun h=>hap.out (by simp) _ _ _ rfl h;have hgo:=fun v hv=>Ex.get_bounds hok.he (v:=v) hv;have hsx:=fun v hv=>subX m.1 g.1 v hv;replace hgo:=zH hgo;replace hsx:=zH hsx;replace hfail:=zH hfail;replace hstep:=zH hstep;replace hok:=zH hok;simp only [List.length_cons]
   go_upto_region 6 with (first
   |(refine wpList_index_at rfl _ _ 27 rfl monoT Tryz.underlying27 _ 8 96 (by kernel_rfl) _ _ _ rfl .i64 0 rfl 0 rfl (by omega) ba oa rfl ?_;rw [Nat.zero_mul,Nat.add_zero])
   |(refine wpList_load_mid rfl 43 _ rfl _ _ rfl _ _ hrga Tryz.underlying43 rfl (by rw [h8a];kernel_rfl) ?_)
   |(refine wpList_store_blk rfl _ (.tmp 7) (.tmp 17) rfl _ _ _ _ rfl rfl (Blk.new wr monoT [.int .i64 0,.int .i64 0,.int .i64 0,.int .i64 0,.bool false,.slice none 0 0,.bool false,.slice none 0 0]) (by simp [exC,hla]) (by simp only [List.size_toArray,h8a];exact info37) (term_ones' hra) ?_;intro W3 R3 gr3))
   have BB:Blk W3 wr.heap.size monoT (exC m.1++ra):=by simpa using R3
   have hba:Below wr.heap.size wr (wr.alloc (.cells #[.int .i64 0,.int .i64 0,.int .i64 0,.int .i64 0,.bool false,.slice none 0 0,.bool false,.slice none 0 0] monoT)):=(Below.refl _ _).alloc (Nat.le_refl _) _;have hb3:Below wr.heap.size wr W3:=hba.trans (grown_below gr3 (by simp) (Nat.le_refl _));have hbr3:=hbr.trans (hb3.mono hbr.size);have ha3:=ha.out.on hb3;have hown3:=hown.out.on hb3;have hra3:=hra.on hb3;have hwm:w.heap.size<=wr.heap.size:=hbr.size;have hom:u6.ownBlock≠some wr.heap.size:=fun h=>by have:=(hown.out.base_le _ h).2;omega
   have ham:ba≠wr.heap.size:=fun h=>by have:=hCa.lt;omega
   have hbase:∀ k,u6.ownBlock=some k->w.heap.size<=k:=fun k hk=>(hown.out.base_le k hk).1;clear hrga R3 gr3 hba hb3 hCa ha hown hra hbr hap hd;generalize wr.heap.size=mb at *;have hst:Hid (Blk W3 mb monoT (exC (subTo m.1 g.1 0)++ra)):=zH BB;clear BB;go_wp2
   go_loopw [18] (fun i wr=>∃ k:Nat,k<=4/\i=.int .i64 k/\Hid (Blk wr mb monoT (exC (subTo m.1 g.1 k)++ra))/\Hid (IsPoly wr (.slice (some ⟨ba,oa,none⟩) (a.length+1) ca) (m::a))/\Hid (OwnPoly w.heap.size wr u6 out)/\Hid (IsRatC wr ra m.2)/\Below w.heap.size w wr) (fun i _=>4-(intOf i).toNat)
   case atStart=>exact⟨0,by omega,rfl,hst,zH ha3,zH hown3,zH hra3,hbr3⟩
   case round =>
    clear hst ha3 hown3 hra3 hbr3;obtain⟨k,hk,rfl,hB,ha,hown,hra,hbr⟩:=hrel;by_cases hk4:k<4
    ·have BB:=hB.out;have hk4':(k:Int)<4:=by omega
     have hat:=exC_at (subTo m.1 g.1 k) k hk4 ra;rw [subTo_get _ _ _ hk4] at hat;have hset:=exC_set (subTo m.1 g.1 k) k hk4 (m.1.get k-g.1.get k) ra;have hw:IntKind.i64.wrap (m.1.get k-g.1.get k)=m.1.get k-g.1.get k:=wrap_id (by rw [<- hsx.out k hk4];exact hgo.out k hk4);have hgat:=exC_at g.1 k hk4 rg;have f1:∀ W',Below wr.heap.size wr W'->W'.cell? ⟨mb,k,none⟩=some (.int .i64 (m.1.get k)):=fun W' h=>(BB.on h).at1 k _ hat
     have f2:∀ W',Below wr.heap.size wr W'->W'.cell? ⟨bq,oq+k,none⟩=some (.int .i64 (g.1.get k)):=fun W' h=>by
      have:=(hCg.on (hbr.trans (h.mono hbr.size))).cell k (by simp [exC];omega);rw [Nat.zero_mul,Nat.add_zero] at this;rw [this];exact hgat
     have hsucc:subTo m.1 g.1 (k+1)=Ex.put (subTo m.1 g.1 k) k (m.1.get k-g.1.get k):=rfl;generalize m.1.get k=x at *;generalize g.1.get k=y at *;replace hsucc:=zH hsucc
     go_upto_region 9 with (fail)
     refine wp_region_L mixed (none) (0) (Okr.none) [.eq (.int .i64 k),.eq (.pointer (some ⟨mb,0,none⟩)),.eq (.pointer (some ⟨mb,k,none⟩)),.eq (.int .i64 x),.eq (.slice (some ⟨bq,oq,none⟩) (b.length+1) cq),.eq (.int .i64 k),.eq (.pointer (some ⟨bq,oq+0*8,none⟩)),.eq (.pointer (some ⟨bq,oq+0*8,none⟩)),.eq (.pointer (some ⟨bq,oq+k,none⟩)),.eq (.int .i64 y),.eq (.int .i64 (x-y)),.eq (.pointer (some ⟨mb,0,none⟩)),.eq (.pointer (some ⟨mb,k,none⟩))] [21,22,23,24,25,26,27,28,29,30,31,32,33] rfl rfl rfl rfl ⟨?_,?_,?_,?_,?_,?_,?_,?_,?_,?_,?_,?_,?_,trivial⟩ ?_
     ·exact fun _ _ a _ _ _=>xM rfl (a 8 rfl)
     ·exact fun _ _ a _ _ _=>goOn_plain rfl (xF0 rfl (a 7 rfl))
     ·intro A w1 hA hL hS he;have h22:=eT 22 (he.1 rfl);have h21:=eT 21 (he.2.1 rfl);exact pZ rfl
     ·intro A w1 hA hL hS he;have h23:=eT 23 (he.1 rfl);refine goOn_plain rfl ?_;have c0:=f1 w1 hL.below;exact stepG_pure rfl rfl gZ
     ·exact fun _ _ a _ _ _=>xM rfl (a 1 rfl)
     ·exact fun _ _ a _ _ _=>xM rfl (a 8 rfl)
     ·exact fun _ _ _ _ _ e=>pI rfl Tryz.underlying27 bq oq 0 (by omega) (e.1 rfl) rfl
     ·exact fun _ _ _ _ _ e=>goOn_plain rfl (xF0 rfl (e.1 rfl))
     ·intro A w1 hA hL hS he;have h28:=eT 28 (he.1 rfl);have h26:=eT 26 (he.2.1 rfl);exact pZ rfl
     ·intro A w1 hA hL hS he;have h29:=eT 29 (he.1 rfl);refine goOn_plain rfl ?_;have c0:=f2 w1 hL.below;exact stepG_pure rfl rfl gZ
     ·intro A w1 hA hL hS he;have h24:=eT 24 (he.1 rfl);have h30:=eT 30 (he.2.1 rfl);exact pZ rfl
     ·exact fun _ _ a _ _ _=>goOn_plain rfl (xF0 rfl (a 7 rfl))
     ·intro A w1 hA hL hS he;have h32:=eT 32 (he.1 rfl);have h21:=eT 21 (he.2.1 rfl);exact pZ rfl
     ·intro W2 hL2;have hb2:=hL2.below;simp only [TailL,FactL.eq,List.length_cons,List.length_nil,List.drop_succ_cons,List.drop_zero];go_frame;have B2:=BB.on hb2;have z:=B2.at1 k _ hat;have hf:=B2.frozen k;have hown2:=hown.out.on hb2;have ha2:=ha.out.on hb2;have hra2:=hra.out.on hb2;have hbr2:=hbr.trans (hb2.mono hbr.size);have hl3:=setCell_lr (j:=k) B2 (.int .i64 (x - y));have B3:=B2.set k (.int .i64 (x - y));rw [hset] at B3;clear f1 f2 hL2;go_wp2;go_roundw
      case rel =>
       refine⟨k+1,by omega,by go_num,zH (by rw [hsucc.out];exact B3),zH (ha2.lrB hl3 (elTerm_ok (by decide)) (fun ao n c h=>by simp only [Value.slice.injEq,Option.some.injEq] at h;rw [<- h.1];simpa using ham)),zH (hown2.lr hl3 (elTerm_ok (by decide)) (.inr hom)),zH (hra2.lr hl3 (by decide)),hbr2.trans (hl3.belowAt hbr2.size (fun k hk=>by cases hk;exact hwm))⟩
      case measure=>simp [intOf];omega
    ·obtain rfl:k=4:=by omega
     rw [subTo_full] at hB;clear hgo hsx;obtain⟨E,hE⟩:∃ E,E=m.1.sub g.1:=⟨_,rfl⟩;have hqe:quoT m g=(E,m.2 / g.2):=by rw [hE];rfl
     have hEr:InR E:=by rw [hE];exact hok.out.he
     rw [<- hE] at hB hfail hstep;replace hqe:=zH hqe;replace hEr:=zH hEr;clear hE;have BB:=hB.out
     go_upto_region 11 with (fail)
     refine wp_region_S trivial (none) (0) (Okr.none) [.eq (.pointer (some ⟨mb,0,none⟩)),.eq (.agg (exC E).toArray),.ret (.bool E.nat),.eq (.bool (!E.nat))] [35,36,37,38] rfl rfl rfl rfl ⟨?_,?_,?_,?_,trivial⟩ ?_
     ·exact fun _ _ a _ _ _=>goOn_plain rfl (xF0 rfl (a 7 rfl))
     ·exact fun _ _ _ hL _ e=>pL rfl (blk_ex (BB.on hL.below)) Tryz.underlying36 (show (exC E).length=4 from rfl) (e.1 rfl)
     ·intro A w1 hA hL hS he;have hb:=hS rfl;have h36:=eT 36 (he.1 rfl);have hf0:=eF A 114;refine goOn_plain rfl ?_;refine stepG_call (f:=114) (args:=#[.agg (exC E).toArray]) rfl rfl ?_ ?_
      ·exact gZ
      ·refine (natural_any E _).mono ?_;rintro e w' ⟨rfl,hb'⟩;exact⟨_,rfl,hb',rfl⟩
     ·intro A w1 hA hL hS he;have h37:=eT 37 (he.1 rfl);exact pZ rfl
     ·intro W2 hL2;have hb2:=hL2.below;simp only [TailL,FactL.eq,FactL.ret,List.length_cons,List.length_nil,List.drop_succ_cons,List.drop_zero];go_frame;have B2:=BB.on hb2;have hown2:=hown.out.on hb2;have ha2:=ha.out.on hb2;have hra2:=hra.out.on hb2;have hbr2:=hbr.trans (hb2.mono hbr.size);clear hL2 BB hB hown ha hra hbr hb2;cases hEn:E.nat
      ·have hr:=hfail.out hEn;replace hr:=zH hr;clear hstep hEn;go_wp2;go_ret2;exact⟨_,by rw [hr.out];rfl,by rw [hr.out];exact IsSl.nil _ _,hbr2⟩
      ·obtain⟨n',hn',hok2,hol,hd'⟩:=hstep.out hEn;rw [hqe.out] at hd';replace hok2:=zH hok2;replace hd':=zH hd';replace hn':=zH hn';clear hfail hstep hEn;have hdiv:=fun W (hb:Below W2.heap.size W2 W)=>rdiv_any _ _ _ _ W (hra2.on hb).rat (hrg.on (hbr2.trans (hb.mono hbr2.size))).rat hok.out.hm hok.out.hg hok.out.hz;obtain⟨N1,A1,K1,C1,N2,A2,K2,C2,rfl,-,-⟩:=hra2;obtain⟨N3,A3,K3,C3,N4,A4,K4,C4,rfl,-,-⟩:=id hrg;have y1:=B2.at1 4 _ rfl;have y2:=B2.at1 5 _ rfl;have y3:=B2.at1 6 _ rfl;have y4:=B2.at1 7 _ rfl;have hCg2:=hCg.on hbr2;have x1:W2.cell? ⟨bq,oq+4,none⟩=some (.bool N3):=by have:=hCg2.cell 4 (by simp [exC]);simpa [exC] using this
       have x2:W2.cell? ⟨bq,oq+4+1,none⟩=some (.slice A3 K3 C3):=by have:=hCg2.cell 5 (by simp [exC]);simpa [exC,Nat.add_assoc] using this
       have x3:W2.cell? ⟨bq,oq+4+2,none⟩=some (.bool N4):=by have:=hCg2.cell 6 (by simp [exC]);simpa [exC,Nat.add_assoc] using this
       have x4:W2.cell? ⟨bq,oq+4+3,none⟩=some (.slice A4 K4 C4):=by have:=hCg2.cell 7 (by simp [exC]);simpa [exC,Nat.add_assoc] using this
       have f1:=B2.frozen 4;have f2:=B2.frozen 5;have f3:=B2.frozen 6;have f4:=B2.frozen 7;clear hCg2
       go_upto_region 13 with (fail)
       go_cut [39,40,41,42,43,44,45,46,47,48,49] (fun _ _ _ _ _ _ _ _ _ _ _ wc=>∃ r':List Value,Hid (Blk wc mb monoT (exC E++r'))/\Hid (IsRatC wc r' (m.2 / g.2))/\Hid (OwnPoly w.heap.size wc u6 out)/\Hid (IsPoly wc (.slice (some ⟨ba,oa,none⟩) (a.length+1) ca) (m::a))/\Below w.heap.size w wc)
       case first =>
        replace hown2:=zH hown2;replace ha2:=zH ha2
        go_region_with (go_at_call 46;refine (hdiv _ (bdn (Below.refl _ _) _)).mono ?_;rintro en w5 ⟨v5,rfl,hv5,hb5⟩;obtain⟨N5,A5,K5,C5,N6,A6,K6,C6,rfl⟩:=rat_agg hv5;have B5:=(B2.on (bdn (Below.refl _ _) _)).on hb5;have z1:=B5.at1 4 _ rfl;have z2:=B5.at1 5 _ rfl;have z3:=B5.at1 6 _ rfl;have z4:=B5.at1 7 _ rfl;have g1:=B5.frozen 4;have g2:=B5.frozen 5;have g3:=B5.frozen 6;have g4:=B5.frozen 7)
        all_goals
         obtain⟨R5,gr5⟩:=setCells_blk [.bool N5,.slice A5 K5 C5,.bool N6,.slice A6 K6 C6] 4 w5 _ B5 (by simp [exC]);have hl5:Lr (some mb) monoT w5 _:=⟨gr5,fun k hk=>by cases hk;exact⟨B5.noOther,R5.noOther⟩⟩;have hb25:Below W2.heap.size W2 w5:=(bdn (Below.refl _ _) 1).trans (hb5.mono (Nat.le_refl _));have hbw5:=hbr2.trans (hb25.mono hbr2.size);have hown5:=(hown2.out.on hb25).lr hl5 (elTerm_ok (by decide)) (.inr hom);have ha5:=(ha2.out.on hb25).lrB hl5 (elTerm_ok (by decide)) (fun ao n c h=>by simp only [Value.slice.injEq,Option.some.injEq] at h;rw [<- h.1];simpa using ham);have hr5:=(hv5.lr hl5 (by decide)).cellsC (cs:=[.bool N5,.slice A5 K5 C5,.bool N6,.slice A6 K6 C6]);have hbw6:=hbw5.trans (hl5.belowAt hbw5.size (fun k hk=>by cases hk;exact hwm));clear z1 z2 z3 z4 g1 g2 g3 g4 B5 hv5 hl5 gr5;go_wp2;go_meet
         case rel=>exact⟨_,zH R5,zH hr5,zH hown5,zH ha5,hbw6⟩
       case rest =>
        clear B2 hown2 ha2 hdiv y1 y2 y3 y4 x1 x2 x3 x4 f1 f2 f3 f4 hbr2;obtain⟨r',hB,hr',hown,ha,hbr⟩:=hcut;have BB:=hB.out;have h4r:=hr'.out.len;have h8:(exC E++r').length=8:=by rw [List.length_append,h4r];rfl
        have hne':some mb≠u6.ownBlock:=fun h=>hom h.symm;obtain⟨k1,k2,k3,k4,k5⟩:=hok2.out;rw [hqe.out] at k3 k5
        have kq:∀ t∈[((E,m.2 / g.2):Trm)],InR t.1/\Rk t.2:=fun t ht=>by
         rw [List.mem_singleton.1 ht];exact⟨hEr.out,k1⟩
        replace k1:=zH k1;replace k2:=zH k2;replace k3:=zH k3;replace k4:=zH k4;replace k5:=zH k5;replace kq:=zH kq;replace hbase:=zH hbase;clear hB hok2 hlg
        go_upto_region 14 with (fail)
        refine wp_region_S trivial (u6.ownBlock) (monoT) (hown.out.okr) [.eq (u6),.eq (.agg (exC E++r').toArray),.new1 elTerm elTerm_okT ((E,m.2 / g.2)),.row elTerm (w.heap.size) wc.heap.size (out++[(E,m.2 / g.2)])] [50,51,52,53] rfl rfl rfl rfl ⟨?_,?_,?_,?_,trivial⟩ ?_
        ·exact fun _ _ a _ _ _=>xM rfl (a 6 rfl)
        ·exact fun _ _ a hL _ _=>pL rfl ((BB.lr hL hne').cells.range) Tryz.underlying43 (h8) (a 7 rfl)
        ·intro A w1 hA hL hS he;have h51:=eT 51 (he.1 rfl);refine goOn_plain rfl ?_;have hE:(elTerm:El _).E w1 _ ((E,m.2 / g.2)):=⟨_,rfl,hr'.out.lr hL (by decide)⟩;refine stepG_new1 rfl rfl ((hown.out.okr).lr hL) hE (execOp_buildSlice rfl ?_) (fun _ _ h=>h);simp only [List.map_toArray,List.map_cons,List.map_nil,h51];exact run_new1_elTermP _ _ ((elTerm).len hE)
        ·intro A w1 hA hL hS he;have hb:=hS rfl;have hbw:Below w.heap.size w w1:=hbr.trans (hL.belowAt hbr.size hbase.out);have h50:=eT 50 (he.1 rfl);obtain⟨v52,h52,f52⟩:=fT 52 (he.2.1 rfl);exact goOn_plain rfl (stepG_append rfl rfl rfl Tryz.underlying27 info_elTerm h50 h52 (hown.out.on hb) rfl rfl (isSl_of_new f52) (by simp only [List.length_cons,List.length_nil];omega) (hbw.size) hL.1.size (fun _ _ h1 h2=>⟨h1,h2⟩))
        ·intro W6 hL6;simp only [TailL,FactL.eq,FactL.new1,FactL.row,FactL.asPure,FactL.of,FactL.fragile,List.length_cons,List.length_nil,List.drop_succ_cons,List.drop_zero];rintro v52 - v53 ⟨hown6,hnew⟩;go_frame;have hbW6:=hbr.trans (hL6.belowAt hbr.size hbase.out);have ha6:=ha.out.lrB hL6 (elTerm_ok (by decide)) (fun ao n c h=>by simp only [Value.slice.injEq,Option.some.injEq] at h;rw [<- h.1];exact hne1);have B6:=BB.lr hL6 hne';have hr6:=hr'.out.lr hL6 (by decide);have hq6:=hq.on hbW6;have hblk6:=zH hown6.base_le;clear hL6 BB ha hown hr' hbr hnew
         go_upto_region 15 with (fail)
         refine wp_region_S trivial (none) (0) (Okr.none) [.eq (.slice (some ⟨ba,oa,none⟩) (a.length+1) ca),.eq (.slice (some ⟨bq,oq,none⟩) (b.length+1) cq),.eq (.agg (exC E++r').toArray),.new1 elTerm (elTerm_ok (by decide)) ((E,m.2 / g.2)),.poly (by decide) (by decide) ((mulP (g::b) [(E,m.2 / g.2)])),.own W6.heap.size (subP (m::a) (mulP (g::b) [(E,m.2 / g.2)]))] [54,55,56,57,58,59] rfl rfl rfl rfl ⟨?_,?_,?_,?_,?_,?_,trivial⟩ ?_
         ·exact fun _ _ a _ _ _=>xM rfl (a 0 rfl)
         ·exact fun _ _ a _ _ _=>xM rfl (a 1 rfl)
         ·exact fun _ _ a hL _ _=>pL rfl ((B6.on hL.below).cells.range) Tryz.underlying43 (h8) (a 7 rfl)
         ·intro A w1 hA hL hS he;have hb:=hS rfl;have h56:=eT 56 (he.1 rfl);refine goOn_plain rfl ?_;have hE:(elTerm:El _).E w1 _ ((E,m.2 / g.2)):=⟨_,rfl,hr6.on hb⟩;refine stepG_new1 rfl rfl ((Okr.none).lr hL) hE (execOp_buildSlice rfl ?_) (fun _ _ h=>h);simp only [List.map_toArray,List.map_cons,List.map_nil,h56];exact run_new1_elTermP _ _ ((elTerm).len hE)
         ·intro A w1 hA hL hS he;have hb:=hS rfl;have h55:=eT 55 (he.1 rfl);obtain⟨v57,h57,f57⟩:=fT 57 (he.2.1 rfl);have hf0:=eF A 54;exact cP (f:=54) (args:=#[.slice (some ⟨bq,oq,none⟩) (b.length+1) cq,v57]) (mul_pp _ _ _ _ _ (hq6.on hb) (isSl_of_new f57) k2.out.1 kq.out k3.out k2.out.2 (by simp))
         ·intro A w1 hA hL hS he;have hb:=hS rfl;have h54:=eT 54 (he.1 rfl);obtain⟨v58,h58,f58⟩:=fT 58 (he.2.1 rfl);have hf0:=eF A 74;refine goOn_plain rfl ?_;refine stepG_call (f:=74) (args:=#[.slice (some ⟨ba,oa,none⟩) (a.length+1) ca,v58]) rfl rfl ?_ ?_
          ·exact gZ
          ·refine (sub_own _ _ _ _ _ (ha6.on hb) f58 k4.out.1 k5.out.1 k4.out.2.1 k5.out.2 k4.out.2.2 (Vld.mul _ _)).mono ?_;rintro e w' ⟨v,rfl,hi,hb'⟩;exact⟨_,rfl,hb',hi.base_mono hb.size⟩
         ·intro W7 hL7;have hb7:=hL7.below;simp only [TailL,FactL.eq,FactL.new1,FactL.poly,FactL.own,FactL.of,List.length_cons,List.length_nil,List.drop_succ_cons,List.drop_zero];rintro v57 - v58 - v59 hown9;go_frame;have hown7:=hown6.on hb7;have hbW7:=hbW6.trans (hb7.mono hbW6.size)
          have hap:(subP (m::a) (mulP (g::b) [(E,m.2 / g.2)]))≠[]->∀ ao n c,v59=.slice (some ao) n c->some ao.block≠v53.ownBlock:=fun _ ao n c h hc=>by
           have h1:=(hblk6.out ao.block hc.symm).2;obtain⟨xs,⟨-,h2⟩,-⟩:=hown9;rcases h2 with ⟨h2,-⟩|⟨gg,cap,cur,h2,h3,-⟩
           ·rw [h] at h2;cases h2
           ·rw [h] at h2;cases h2;simp only at h1;omega
          replace hap:=zH hap;clear hL7 hb7 hown6 ha6 B6 hr6 hq6 hbW6;go_wp2;go_roundg n'
          case measure=>have:=hn'.out;omega
          case rel=>exact⟨_,_,zH hown9.isSl,zH hown7,hd',hbW7,hap⟩
end Go.Proofs.YtopclbeomcggiaaGreat
end
