/- The reference's polynomials: Add. -/
import Derived.Test.YtopclbeomcggiaaGreatE02
import Derived.Test.YtopclbeomcggiaaGreatE04
import Derived.Test.YtopclbeomcggiaaGreatE20
import Derived.Test.YtopclbeomcggiaaGreatE27
set_option linter.unusedVariables false
set_option linter.unusedSimpArgs false
set_option maxHeartbeats 16000000
set_option maxRecDepth 100000
namespace Q
def mg1:List Trm->List Trm->Bool
|_,[]=>true
|[],_::_=>false
|s::_,t::_=>s.1.gt t.1
def mg2:List Trm->List Trm->Bool
|[],_=>true
|_::_,[]=>false
|s::_,t::_=>t.1.gt s.1
theorem mg1_true {P Q:List Trm} (h:mg1 P Q=true) (hne:P≠[]\/Q≠[]):∃ s P2,P=s::P2/\mergeP P Q=s::mergeP P2 Q:=by
 cases Q with
|nil=>cases P with
 |nil=>simp at hne
 |cons s P2=>exact⟨s,P2,rfl,by rw [Q.mergeP_nil,Q.mergeP_nil]⟩
|cons t Q2=>cases P with
 |nil=>cases h
 |cons s P2=>exact⟨s,P2,rfl,Go.Proofs.YtopclbeomcggiaaGreat.mergeP_gt h⟩
theorem mg1_false {P Q:List Trm} (h:mg1 P Q=false):∃ t Q2,Q=t::Q2:=by
 cases Q with
|nil=>cases P <;> cases h
|cons t Q2=>exact⟨t,Q2,rfl⟩
theorem mg2_true {P Q2:List Trm} {t:Trm} (h:mg2 P (t::Q2)=true):mergeP P (t::Q2)=t::mergeP P Q2:=by
 cases P with
|nil=>rw [mergeP_nil',mergeP_nil']
|cons s P2=>exact Go.Proofs.YtopclbeomcggiaaGreat.mergeP_lt h
theorem mg2_false {P Q2:List Trm} {t:Trm} (h1:mg1 P (t::Q2)=false) (h:mg2 P (t::Q2)=false):∃ s P2,P=s::P2/\s.1=t.1/\mergeP P (t::Q2)=if s.2+t.2=0 then mergeP P2 Q2 else (s.1,s.2+t.2)::mergeP P2 Q2:=by
 cases P with
|nil=>cases h
|cons s P2 =>
  have he:s.1=t.1:=by
   rcases Classical.em (s.1=t.1) with e|e
   ·exact e
   ·have:=Ex.gt_total (show s.1.gt t.1=false from h1) e;rw [show t.1.gt s.1=false from h] at this;cases this
  exact⟨s,P2,rfl,he,Go.Proofs.YtopclbeomcggiaaGreat.mergeP_eq' he⟩
end Q
namespace Go.Proofs.YtopclbeomcggiaaGreat
open Go.RowKit Q Go.WideMaps Go.Maps
theorem add7_own (vp vq:Value) (p q:List Trm) (w:World) (hp:IsPoly w vp p) (hq:IsPoly w vq q) (rp:∀ t∈p,Rs t.2) (rq:∀ t∈q,Rs t.2) (lp:p.length<=100000000) (lq:q.length<=100000000) :
  Calls Tryz.prog 39 #[vp,vq] w (RetOwn w (mergeP p q)):=by
 obtain⟨ap,cp,rfl,hcp⟩:=hp.shape;obtain⟨aq,cq,rfl,hcq⟩:=hq.shape;replace rp:=zH rp;replace rq:=zH rq;obtain⟨R,hR⟩:∃ R,R=mergeP p q:=⟨_,rfl⟩;rw [<- hR];replace hR:=zH hR
 go_enter Tryz.func39,Tryz.ntmps39
 go_wp2;have hown0:=own_lit0 elTerm w;have hb0:Below w.heap.size w (w.alloc (.cells #[] monoT)):=(Below.refl _ _).alloc (Nat.le_refl _) _;change OwnPoly w.heap.size (w.alloc (.cells #[] 43)) _ _ at hown0;change Below w.heap.size w (w.alloc (.cells #[] 43)) at hb0;replace hp:=zH hp;replace hq:=zH hq
 go_loopw [5,6,7] (fun o vi vj wr=>∃ (i j:Nat) (M:List Trm),vi=.int .i64 i/\vj=.int .i64 j/\i<=p.length/\j<=q.length/\Hid (OwnPoly w.heap.size wr o M)/\Hid (R=M++mergeP (p.drop i) (q.drop j))/\M.length<=i+j/\Below w.heap.size w wr) (fun _ vi vj _=>p.length+q.length-((intOf vi).toNat+(intOf vj).toNat))
 case atStart=>exact⟨0,0,[],rfl,rfl,by omega,by omega,zH hown0,zH (by simpa using hR.out),by simp,hb0⟩
 case round =>
  clear hown0 hb0;obtain⟨i,j,M,rfl,rfl,hi,hj,hown,hR,hM,hbr⟩:=hrel;by_cases hd:i<p.length\/j<q.length
  ·have hnd:p.drop i≠[]\/q.drop j≠[]:=by
    rcases hd with h|h
    ·left;intro e;have:=congrArg List.length e;simp at this;omega
    ·right;intro e;have:=congrArg List.length e;simp at this;omega
   have hd1:¬ i<p.length->j<q.length:=fun h=>by omega
   replace hnd:=zH hnd;clear hd
   go_upto_region 2 with (fail)
   go_cut [10,11,12,13,14,15,16,17,18,19] (fun _ _ _ _ _ _ _ _ _ v19 wc=>v19=.bool true/\wr=wc)
   case first =>
    by_cases hil:i<p.length
    ·have g1:(i:Int)<(p.length:Int):=by omega
     go_wp2;go_meet
     case rel=>exact⟨rfl,rfl⟩
    ·have g1:¬ (i:Int)<(p.length:Int):=by omega
     have g2:(j:Int)<(q.length:Int):=by have:=hd1 hil;omega
     go_wp2;go_meet
     case rel=>exact⟨rfl,rfl⟩
   case rest =>
   obtain⟨rfl,rfl⟩:=hcut
   go_upto_region 3 with (fail)
   obtain⟨g1,hg1⟩:∃ g,g=mg1 (p.drop i) (q.drop j):=⟨_,rfl⟩;replace hg1:=zH hg1
   go_cut [20,21,22,23,24,25,26,27,28,29,30,31,32,33,34,35,36,37,38,39,40,41,42] (fun _ _ _ _ _ _ _ _ _ _ _ _ _ _ _ _ _ _ _ _ _ _ v42 wc=>v42=.bool g1/\Below wr.heap.size wr wc)
   case first =>
    clear hown hR;by_cases hjl:j<q.length
    ·have e1:((j:Int) == (q.length:Int))=false:=by simp;omega
     have e2:¬ (j:Int)=(q.length:Int):=by omega
     by_cases hil:i<p.length
     ·have e3:(i:Int)<(p.length:Int):=by omega
      have hpi:p[i]?=some p[i]:=List.getElem?_eq_getElem hil;have hqj:q[j]?=some q[j]:=List.getElem?_eq_getElem hjl;have hg:g1=p[i].1.gt q[j].1:=by rw [hg1.out,List.drop_eq_getElem_cons hil,List.drop_eq_getElem_cons hjl];rfl
      generalize p[i]=s at hpi hg;generalize q[j]=t at hqj hg;obtain⟨ba,oa,ra,rfl,hra,hCa⟩:=cell_term hp.out hpi;obtain⟨bq,oq,rb,rfl,hrb,hCb⟩:=cell_term hq.out hqj;refine wp_region_L mixed (none) (0) (Okr.none) [.eq (.int .i64 j),.eq (.slice (some ⟨bq,oq,none⟩) q.length cq),.eq (.int .i64 q.length),.eq (.bool false),.eq (.bool false),.eq (.int .i64 i),.eq (.slice (some ⟨ba,oa,none⟩) p.length cp),.eq (.int .i64 p.length),.eq (.bool true),.eq (.bool true),.eq (.slice (some ⟨ba,oa,none⟩) p.length cp),.eq (.int .i64 i),.eq (.pointer (some ⟨ba,oa+i*8,none⟩)),.eq (.pointer (some ⟨ba,oa+i*8,none⟩)),.eq (.agg (exC s.1).toArray),.eq (.slice (some ⟨bq,oq,none⟩) q.length cq),.eq (.int .i64 j),.eq (.pointer (some ⟨bq,oq+j*8,none⟩)),.eq (.pointer (some ⟨bq,oq+j*8,none⟩)),.eq (.agg (exC t.1).toArray),.ret (.bool (s.1.gt t.1)),.eq (.bool (s.1.gt t.1)),.eq (.bool (s.1.gt t.1))] [20,21,22,23,24,25,26,27,28,29,30,31,32,33,34,35,36,37,38,39,40,41,42] rfl rfl rfl rfl ⟨?_,?_,?_,?_,?_,?_,?_,?_,?_,?_,?_,?_,?_,?_,?_,?_,?_,?_,?_,?_,?_,?_,?_,trivial⟩ ?_
      ·exact fun _ _ a _ _ _=>xM rfl (a 7 rfl)
      ·exact fun _ _ a _ _ _=>xM rfl (a 1 rfl)
      ·intro A w1 hA hL hS he;have h21:=eT 21 (he.1 rfl);exact pZ rfl
      ·intro A w1 hA hL hS he;have h20:=eT 20 (he.1 rfl);have h22:=eT 22 (he.2.1 rfl);exact pZ rfl
      ·exact fun _ _ _ _ _ e=>xM rfl (e.1 rfl)
      ·exact fun _ _ a _ _ e=>yM (e.1 rfl) rfl (a 6 rfl)
      ·exact fun _ _ a _ _ e=>yM (e.1 rfl) rfl (a 0 rfl)
      ·intro A w1 hA hL hS he;have h24:=eT 24 (he.2.1 rfl);have h26:=eT 26 (he.1 rfl);exact yZ h24 rfl
      ·intro A w1 hA hL hS he;have h24:=eT 24 (he.2.2.1 rfl);have h25:=eT 25 (he.1 rfl);have h27:=eT 27 (he.2.1 rfl);exact yZ h24 rfl
      ·exact fun _ _ _ _ _ e=>yM (e.2.1 rfl) rfl (e.1 rfl)
      ·exact fun _ _ a _ _ e=>yM (e.1 rfl) rfl (a 0 rfl)
      ·exact fun _ _ a _ _ e=>yM (e.1 rfl) rfl (a 6 rfl)
      ·exact fun _ _ _ _ _ e=>goOn_yes rfl rfl (e.2.2.1 rfl) (xI rfl Tryz.underlying27 ba oa i (hil) (e.1 rfl) (e.2.1 rfl))
      ·exact fun _ _ _ _ _ e=>goOn_yes rfl rfl (e.2.1 rfl) (xF0 rfl (e.1 rfl))
      ·intro A w1 hA hL hS he;have hb:=hL.below;have hbw:Below w.heap.size w w1:=hbr.trans (hb.mono hbr.size);exact goOn_yes rfl rfl (he.2.1 rfl) (xL rfl (cells_ex (hCa.on hbw)) Tryz.underlying36 (show (exC s.1).length=4 from rfl) (he.1 rfl))
      ·exact fun _ _ a _ _ e=>yM (e.1 rfl) rfl (a 1 rfl)
      ·exact fun _ _ a _ _ e=>yM (e.1 rfl) rfl (a 7 rfl)
      ·exact fun _ _ _ _ _ e=>goOn_yes rfl rfl (e.2.2.1 rfl) (xI rfl Tryz.underlying27 bq oq j (hjl) (e.1 rfl) (e.2.1 rfl))
      ·exact fun _ _ _ _ _ e=>goOn_yes rfl rfl (e.2.1 rfl) (xF0 rfl (e.1 rfl))
      ·intro A w1 hA hL hS he;have hb:=hL.below;have hbw:Below w.heap.size w w1:=hbr.trans (hb.mono hbr.size);exact goOn_yes rfl rfl (he.2.1 rfl) (xL rfl (cells_ex (hCb.on hbw)) Tryz.underlying36 (show (exC t.1).length=4 from rfl) (he.1 rfl))
      ·intro A w1 hA hL hS he;have hb:=hS rfl;have h29:=eT 29 (he.2.2.1 rfl);have h34:=eT 34 (he.1 rfl);have h39:=eT 39 (he.2.1 rfl);have hf0:=eF A 68;refine goOn_yes rfl rfl h29 ?_;refine stepG_call (f:=68) (args:=#[.agg (exC s.1).toArray,.agg (exC t.1).toArray]) rfl rfl ?_ ?_
       ·exact gZ
       ·refine (greater_any s.1 t.1 _).mono ?_;rintro e w' ⟨rfl,hb'⟩;exact⟨_,rfl,hb',rfl⟩
      ·exact fun _ _ _ _ _ e=>goOn_yes rfl rfl (e.2.2.1 rfl) (stepG_pk rfl (e.1 rfl) rfl (e.2.1 rfl))
      ·exact fun _ _ _ _ _ e=>pK rfl (e.1 rfl) (e.2.1 rfl)
      ·intro W2 hL2;simp only [TailL,FactL.eq,FactL.ret,lZ];go_frame;go_wp2;go_meet
       case rel=>exact⟨by rw [hg],hL2.below⟩
     ·have e3:¬ (i:Int)<(p.length:Int):=by omega
      have hg:g1=false:=by rw [hg1.out,List.drop_of_length_le (by omega),List.drop_eq_getElem_cons hjl];rfl
      refine wp_region_L mixed (none) (0) (Okr.none) [.eq (.int .i64 j),.eq (.slice aq q.length cq),.eq (.int .i64 q.length),.eq (.bool false),.eq (.bool false),.eq (.int .i64 i),.eq (.slice ap p.length cp),.eq (.int .i64 p.length),.eq (.bool false),.eq (.bool false),.eq undef,.eq undef,.eq undef,.eq undef,.eq undef,.eq undef,.eq undef,.eq undef,.eq undef,.eq undef,.eq undef,.eq (.bool false),.eq (.bool false)] [20,21,22,23,24,25,26,27,28,29,30,31,32,33,34,35,36,37,38,39,40,41,42] rfl rfl rfl rfl ⟨?_,?_,?_,?_,?_,?_,?_,?_,?_,?_,?_,?_,?_,?_,?_,?_,?_,?_,?_,?_,?_,?_,?_,trivial⟩ ?_
      ·exact fun _ _ a _ _ _=>xM rfl (a 7 rfl)
      ·exact fun _ _ a _ _ _=>xM rfl (a 1 rfl)
      ·intro A w1 hA hL hS he;have h21:=eT 21 (he.1 rfl);exact pZ rfl
      ·intro A w1 hA hL hS he;have h20:=eT 20 (he.1 rfl);have h22:=eT 22 (he.2.1 rfl);exact pZ rfl
      ·exact fun _ _ _ _ _ e=>xM rfl (e.1 rfl)
      ·exact fun _ _ a _ _ e=>yM (e.1 rfl) rfl (a 6 rfl)
      ·exact fun _ _ a _ _ e=>yM (e.1 rfl) rfl (a 0 rfl)
      ·intro A w1 hA hL hS he;have h24:=eT 24 (he.2.1 rfl);have h26:=eT 26 (he.1 rfl);exact yZ h24 rfl
      ·intro A w1 hA hL hS he;have h24:=eT 24 (he.2.2.1 rfl);have h25:=eT 25 (he.1 rfl);have h27:=eT 27 (he.2.1 rfl);exact yZ h24 rfl
      ·exact fun _ _ _ _ _ e=>yM (e.2.1 rfl) rfl (e.1 rfl)
      ·exact fun _ _ _ _ _ e=>nO false (e.1 rfl)
      ·exact fun _ _ _ _ _ e=>nO false (e.1 rfl)
      ·exact fun _ _ _ _ _ e=>nO false (e.2.2.1 rfl)
      ·exact fun _ _ _ _ _ e=>nO false (e.2.1 rfl)
      ·exact fun _ _ _ _ _ e=>nO false (e.2.1 rfl)
      ·exact fun _ _ _ _ _ e=>nO false (e.1 rfl)
      ·exact fun _ _ _ _ _ e=>nO false (e.1 rfl)
      ·exact fun _ _ _ _ _ e=>nO false (e.2.2.1 rfl)
      ·exact fun _ _ _ _ _ e=>nO false (e.2.1 rfl)
      ·exact fun _ _ _ _ _ e=>nO false (e.2.1 rfl)
      ·exact fun _ _ _ _ _ e=>nO false (e.2.2.1 rfl)
      ·exact fun _ _ _ _ _ e=>goOn_yes rfl rfl (e.2.2.1 rfl) (stepG_pk rfl (e.1 rfl) rfl rfl)
      ·exact fun _ _ _ _ _ e=>pK rfl (e.1 rfl) (e.2.1 rfl)
      ·intro W2 hL2;simp only [TailL,FactL.eq,FactL.ret,lZ];go_frame;go_wp2;go_meet
       case rel=>exact⟨by rw [hg],hL2.below⟩
    ·have e2:(j:Int)=(q.length:Int):=by omega
     have e1:((j:Int) == (q.length:Int))=true:=by simp;omega
     have hg:g1=true:=by rw [hg1.out,List.drop_of_length_le (l:=q) (by omega)];rfl
     refine wp_region_L mixed (none) (0) (Okr.none) [.eq (.int .i64 j),.eq (.slice aq q.length cq),.eq (.int .i64 q.length),.eq (.bool true),.eq (.bool true),.eq undef,.eq undef,.eq undef,.eq undef,.eq undef,.eq undef,.eq undef,.eq undef,.eq undef,.eq undef,.eq undef,.eq undef,.eq undef,.eq undef,.eq undef,.eq undef,.eq undef,.eq (.bool true)] [20,21,22,23,24,25,26,27,28,29,30,31,32,33,34,35,36,37,38,39,40,41,42] rfl rfl rfl rfl ⟨?_,?_,?_,?_,?_,?_,?_,?_,?_,?_,?_,?_,?_,?_,?_,?_,?_,?_,?_,?_,?_,?_,?_,trivial⟩ ?_
     ·exact fun _ _ a _ _ _=>xM rfl (a 7 rfl)
     ·exact fun _ _ a _ _ _=>xM rfl (a 1 rfl)
     ·intro A w1 hA hL hS he;have h21:=eT 21 (he.1 rfl);exact pZ rfl
     ·intro A w1 hA hL hS he;have h20:=eT 20 (he.1 rfl);have h22:=eT 22 (he.2.1 rfl);exact pZ rfl
     ·exact fun _ _ _ _ _ e=>xM rfl (e.1 rfl)
     ·exact fun _ _ _ _ _ e=>nO true (e.1 rfl)
     ·exact fun _ _ _ _ _ e=>nO true (e.1 rfl)
     ·exact fun _ _ _ _ _ e=>nO true (e.2.1 rfl)
     ·exact fun _ _ _ _ _ e=>nO true (e.2.2.1 rfl)
     ·exact fun _ _ _ _ _ e=>nO true (e.2.1 rfl)
     ·exact fun _ _ _ _ _ e=>goOn_undef rfl rfl (e.1 rfl) rfl
     ·exact fun _ _ _ _ _ e=>goOn_undef rfl rfl (e.1 rfl) rfl
     ·exact fun _ _ _ _ _ e=>goOn_undef rfl rfl (e.2.2.1 rfl) rfl
     ·exact fun _ _ _ _ _ e=>goOn_undef rfl rfl (e.2.1 rfl) rfl
     ·exact fun _ _ _ _ _ e=>goOn_undef rfl rfl (e.2.1 rfl) rfl
     ·exact fun _ _ _ _ _ e=>goOn_undef rfl rfl (e.1 rfl) rfl
     ·exact fun _ _ _ _ _ e=>goOn_undef rfl rfl (e.1 rfl) rfl
     ·exact fun _ _ _ _ _ e=>goOn_undef rfl rfl (e.2.2.1 rfl) rfl
     ·exact fun _ _ _ _ _ e=>goOn_undef rfl rfl (e.2.1 rfl) rfl
     ·exact fun _ _ _ _ _ e=>goOn_undef rfl rfl (e.2.1 rfl) rfl
     ·exact fun _ _ _ _ _ e=>goOn_undef rfl rfl (e.2.2.1 rfl) rfl
     ·exact fun _ _ _ _ _ e=>nO true (e.2.2.1 rfl)
     ·exact fun _ _ _ _ _ e=>goOn_plain rfl (stepG_pk rfl (e.1 rfl) rfl rfl)
     ·intro W2 hL2;simp only [TailL,FactL.eq,FactL.ret,lZ];go_frame;go_wp2;go_meet
      case rel=>exact⟨by rw [hg],hL2.below⟩
   case rest =>
    obtain⟨rfl,hbc⟩:=hcut;replace hbr:=hbr.trans (hbc.mono hbr.size);replace hown:=zH (hown.out.on hbc);clear hbc hd1;cases g1
    ·obtain⟨t,Q2,hQ⟩:=mg1_false hg1.out.symm;obtain⟨hq1,hqj,hjl⟩:=drop_cons' hQ;rw [hQ] at hg1 hR;have hjl':(j:Int)<(q.length:Int):=by omega
     obtain⟨bq,oq,rb,rfl,hrb,hCb⟩:=cell_term hq.out hqj;have hlb:=hrb.len;clear hnd
     go_upto_region 6 with (fail)
     obtain⟨g2,hg2⟩:∃ g,g=mg2 (p.drop i) (t::Q2):=⟨_,rfl⟩;replace hg2:=zH hg2;replace hQ:=zH hQ;replace hq1:=zH hq1
     go_cut [52,53,54,55,56,57,58,59,60,61,62,63,64,65,66,67,68] (fun _ _ _ _ _ _ _ _ _ _ _ _ _ _ _ _ v68 wd=>v68=.bool g2/\Below wc.heap.size wc wd)
     case first =>
      clear hown hR;by_cases hil:i<p.length
      ·have e1:((i:Int) == (p.length:Int))=false:=by simp;omega
       have e2:¬ (i:Int)=(p.length:Int):=by omega
       have hpi:p[i]?=some p[i]:=List.getElem?_eq_getElem hil;have hg:g2=t.1.gt p[i].1:=by rw [hg2.out,List.drop_eq_getElem_cons hil];rfl
       generalize p[i]=s at hpi hg;obtain⟨ba,oa,ra,rfl,hra,hCa⟩:=cell_term hp.out hpi;refine wp_region_L mixed (none) (0) (Okr.none) [.eq (.int .i64 i),.eq (.slice (some ⟨ba,oa,none⟩) p.length cp),.eq (.int .i64 p.length),.eq (.bool false),.eq (.bool false),.eq (.slice (some ⟨bq,oq,none⟩) q.length cq),.eq (.int .i64 j),.eq (.pointer (some ⟨bq,oq+j*8,none⟩)),.eq (.pointer (some ⟨bq,oq+j*8,none⟩)),.eq (.agg (exC t.1).toArray),.eq (.slice (some ⟨ba,oa,none⟩) p.length cp),.eq (.int .i64 i),.eq (.pointer (some ⟨ba,oa+i*8,none⟩)),.eq (.pointer (some ⟨ba,oa+i*8,none⟩)),.eq (.agg (exC s.1).toArray),.ret (.bool (t.1.gt s.1)),.eq (.bool (t.1.gt s.1))] [52,53,54,55,56,57,58,59,60,61,62,63,64,65,66,67,68] rfl rfl rfl rfl ⟨?_,?_,?_,?_,?_,?_,?_,?_,?_,?_,?_,?_,?_,?_,?_,?_,?_,trivial⟩ ?_
       ·exact fun _ _ a _ _ _=>xM rfl (a 6 rfl)
       ·exact fun _ _ a _ _ _=>xM rfl (a 0 rfl)
       ·intro A w1 hA hL hS he;have h53:=eT 53 (he.1 rfl);exact pZ rfl
       ·intro A w1 hA hL hS he;have h52:=eT 52 (he.1 rfl);have h54:=eT 54 (he.2.1 rfl);exact pZ rfl
       ·exact fun _ _ _ _ _ e=>xM rfl (e.1 rfl)
       ·exact fun _ _ a _ _ e=>yM (e.1 rfl) rfl (a 1 rfl)
       ·exact fun _ _ a _ _ e=>yM (e.1 rfl) rfl (a 7 rfl)
       ·exact fun _ _ _ _ _ e=>goOn_yes rfl rfl (e.2.2.1 rfl) (xI rfl Tryz.underlying27 bq oq j (hjl) (e.1 rfl) (e.2.1 rfl))
       ·exact fun _ _ _ _ _ e=>goOn_yes rfl rfl (e.2.1 rfl) (xF0 rfl (e.1 rfl))
       ·intro A w1 hA hL hS he;have hb:=hL.below;have hbw:Below w.heap.size w w1:=hbr.trans (hb.mono hbr.size);exact goOn_yes rfl rfl (he.2.1 rfl) (xL rfl (cells_ex (hCb.on hbw)) Tryz.underlying36 (show (exC t.1).length=4 from rfl) (he.1 rfl))
       ·exact fun _ _ a _ _ e=>yM (e.1 rfl) rfl (a 0 rfl)
       ·exact fun _ _ a _ _ e=>yM (e.1 rfl) rfl (a 6 rfl)
       ·exact fun _ _ _ _ _ e=>goOn_yes rfl rfl (e.2.2.1 rfl) (xI rfl Tryz.underlying27 ba oa i (hil) (e.1 rfl) (e.2.1 rfl))
       ·exact fun _ _ _ _ _ e=>goOn_yes rfl rfl (e.2.1 rfl) (xF0 rfl (e.1 rfl))
       ·intro A w1 hA hL hS he;have hb:=hL.below;have hbw:Below w.heap.size w w1:=hbr.trans (hb.mono hbr.size);exact goOn_yes rfl rfl (he.2.1 rfl) (xL rfl (cells_ex (hCa.on hbw)) Tryz.underlying36 (show (exC s.1).length=4 from rfl) (he.1 rfl))
       ·intro A w1 hA hL hS he;have hb:=hS rfl;have h56:=eT 56 (he.2.2.1 rfl);have h61:=eT 61 (he.1 rfl);have h66:=eT 66 (he.2.1 rfl);have hf0:=eF A 68;refine goOn_yes rfl rfl h56 ?_;refine stepG_call (f:=68) (args:=#[.agg (exC t.1).toArray,.agg (exC s.1).toArray]) rfl rfl ?_ ?_
        ·exact gZ
        ·refine (greater_any t.1 s.1 _).mono ?_;rintro e w' ⟨rfl,hb'⟩;exact⟨_,rfl,hb',rfl⟩
       ·exact fun _ _ _ _ _ e=>pK rfl (e.1 rfl) (e.2.1 rfl)
       ·intro W2 hL2;simp only [TailL,FactL.eq,FactL.ret,lZ];go_frame;go_wp2;go_meet
        case rel=>exact⟨by rw [hg],hL2.below⟩
      ·have e2:(i:Int)=(p.length:Int):=by omega
       have e1:((i:Int) == (p.length:Int))=true:=by simp;omega
       have hg:g2=true:=by rw [hg2.out,List.drop_of_length_le (l:=p) (by omega)];rfl
       refine wp_region_L mixed (none) (0) (Okr.none) [.eq (.int .i64 i),.eq (.slice ap p.length cp),.eq (.int .i64 p.length),.eq (.bool true),.eq (.bool true),.eq undef,.eq undef,.eq undef,.eq undef,.eq undef,.eq undef,.eq undef,.eq undef,.eq undef,.eq undef,.eq undef,.eq (.bool true)] [52,53,54,55,56,57,58,59,60,61,62,63,64,65,66,67,68] rfl rfl rfl rfl ⟨?_,?_,?_,?_,?_,?_,?_,?_,?_,?_,?_,?_,?_,?_,?_,?_,?_,trivial⟩ ?_
       ·exact fun _ _ a _ _ _=>xM rfl (a 6 rfl)
       ·exact fun _ _ a _ _ _=>xM rfl (a 0 rfl)
       ·intro A w1 hA hL hS he;have h53:=eT 53 (he.1 rfl);exact pZ rfl
       ·intro A w1 hA hL hS he;have h52:=eT 52 (he.1 rfl);have h54:=eT 54 (he.2.1 rfl);exact pZ rfl
       ·exact fun _ _ _ _ _ e=>xM rfl (e.1 rfl)
       ·exact fun _ _ _ _ _ e=>nO true (e.1 rfl)
       ·exact fun _ _ _ _ _ e=>nO true (e.1 rfl)
       ·exact fun _ _ _ _ _ e=>nO true (e.2.2.1 rfl)
       ·exact fun _ _ _ _ _ e=>nO true (e.2.1 rfl)
       ·exact fun _ _ _ _ _ e=>nO true (e.2.1 rfl)
       ·exact fun _ _ _ _ _ e=>nO true (e.1 rfl)
       ·exact fun _ _ _ _ _ e=>nO true (e.1 rfl)
       ·exact fun _ _ _ _ _ e=>nO true (e.2.2.1 rfl)
       ·exact fun _ _ _ _ _ e=>nO true (e.2.1 rfl)
       ·exact fun _ _ _ _ _ e=>nO true (e.2.1 rfl)
       ·exact fun _ _ _ _ _ e=>nO true (e.2.2.1 rfl)
       ·exact fun _ _ _ _ _ e=>goOn_plain rfl (stepG_pk rfl (e.1 rfl) rfl rfl)
       ·intro W2 hL2;simp only [TailL,FactL.eq,FactL.ret,lZ];go_frame;go_wp2;go_meet
        case rel=>exact⟨by rw [hg],hL2.below⟩
     case rest =>
      obtain⟨rfl,hbc⟩:=hcut;replace hbr:=hbr.trans (hbc.mono hbr.size);have hown:=hown.out.on hbc;clear hbc;have hbase:∀ k,u5.ownBlock=some k->w.heap.size<=k:=fun k hk=>(hown.base_le k hk).1;cases g2
      ·obtain⟨s,P2,hP,hst,hmg⟩:=mg2_false hg1.out.symm hg2.out.symm;obtain⟨hp1,hpi,hil⟩:=drop_cons' hP;obtain⟨ba,oa,ra,rfl,hra,hCa⟩:=cell_term hp.out hpi;have hla:=hra.len;have hks:Rs s.2:=rp.out s (List.mem_of_getElem? hpi);have hkt:Rs t.2:=rq.out t (List.mem_of_getElem? hqj);rw [hmg] at hR;have hil':(i:Int)<(p.length:Int):=by omega
       clear hmg hg1 hg2;replace hp1:=zH hp1;replace hP:=zH hP;replace hst:=zH hst
       go_upto_region 9 with (fail)
       refine wp_region_L mixed (none) (0) (Okr.none) [.eq (.slice (some ⟨ba,oa,none⟩) p.length cp),.eq (.int .i64 i),.eq (.pointer (some ⟨ba,oa+i*8,none⟩)),.eq (.pointer (some ⟨ba,oa+i*8+4,none⟩)),.eq (.agg (ra).toArray),.eq (.slice (some ⟨bq,oq,none⟩) q.length cq),.eq (.int .i64 j),.eq (.pointer (some ⟨bq,oq+j*8,none⟩)),.eq (.pointer (some ⟨bq,oq+j*8+4,none⟩)),.eq (.agg (rb).toArray),.rat (by decide) ((s.2+t.2)),.box 41 wc.heap.size [.bool false,.slice none 0 0,.bool false,.slice none 0 0]] [78,79,80,81,82,83,84,85,86,87,88,8] rfl rfl rfl rfl ⟨?_,?_,?_,?_,?_,?_,?_,?_,?_,?_,?_,?_,trivial⟩ ?_
       ·exact fun _ _ a _ _ _=>xM rfl (a 0 rfl)
       ·exact fun _ _ a _ _ _=>xM rfl (a 6 rfl)
       ·exact fun _ _ _ _ _ e=>pI rfl Tryz.underlying27 ba oa i (hil) (e.1 rfl) (e.2.1 rfl)
       ·exact fun _ _ _ _ _ e=>goOn_plain rfl (xF1 rfl (e.1 rfl))
       ·intro A w1 hA hL hS he;have hb:=hL.below;have hbw:Below w.heap.size w w1:=hbr.trans (hb.mono hbr.size);exact pL rfl (cells_rat (hCa.on hbw)) Tryz.underlying41 (hla) (he.1 rfl)
       ·exact fun _ _ a _ _ _=>xM rfl (a 1 rfl)
       ·exact fun _ _ a _ _ _=>xM rfl (a 7 rfl)
       ·exact fun _ _ _ _ _ e=>pI rfl Tryz.underlying27 bq oq j (hjl) (e.1 rfl) (e.2.1 rfl)
       ·exact fun _ _ _ _ _ e=>goOn_plain rfl (xF1 rfl (e.1 rfl))
       ·intro A w1 hA hL hS he;have hb:=hL.below;have hbw:Below w.heap.size w w1:=hbr.trans (hb.mono hbr.size);exact pL rfl (cells_rat (hCb.on hbw)) Tryz.underlying41 (hlb) (he.1 rfl)
       ·intro A w1 hA hL hS he;have hb:=hS rfl;have hbw:Below w.heap.size w w1:=hbr.trans (hb.mono hbr.size);have h82:=eT 82 (he.1 rfl);have h87:=eT 87 (he.2.1 rfl);have hf0:=eF A 81;exact cP (f:=81) (args:=#[.agg (ra).toArray,.agg (rb).toArray]) (add2_any _ _ _ _ _ (hra.on hbw).rat (hrb.on hbw).rat hks hkt)
       ·intro A w1 hA hL hS he;refine goOn_plain rfl ?_;refine stepG_box rfl rfl ((Okr.none).lr hL) hL.1.size (by generalize A.eval=ev at *;go_simp) (fun _ _ h=>h)
       ·intro W2 hL2;have hbW2:=hbr.trans (hL2.below.mono hbr.size);simp only [TailL,FactL.eq,FactL.rat,FactL.box,FactL.of,lZ];rintro v88 h88 v8 ⟨x,-,hBx,rfl,B8⟩;obtain⟨n5,a5,k5,c5,n6,a6,k6,c6,rfl⟩:=rat_agg h88;go_frame;have hown2:=hown.on hL2.below;have hxw:w.heap.size<=x:=by have:=hbr.size;omega
        clear hL2
        go_upto_region 10 with (refine wpList_store_blk rfl _ (.tmp 8) (.tmp 88) rfl _ _ _ _ rfl rfl B8 rfl sizeRat isRat_ones ?_;intro W3 R3 gr3)
        have hl3:Lr (some x) 41 W2 W3:=⟨gr3,fun k hk=>by cases hk;exact⟨B8.noOther,R3.noOther⟩⟩
        have hxo:u5.ownBlock≠some x:=by
         intro h;have h1:=(hown2.okr x h).2;exact absurd (h1 _ _ _ B8) (by decide)
        have hown3:=hown2.lr hl3 (elTerm_ok (by decide)) (.inr hxo);have h88':=h88.lr hl3 (by decide);have hbW3:=hbW2.trans (hl3.belowAt hbW2.size (fun k hk=>by cases hk;exact hxw));have hsgn:=fun W hb=>sign2_any _ _ W (h88'.on (w':=W) hb);have y1:=R3.at1 0 _ rfl;have y2:=R3.at1 1 _ rfl;have y3:=R3.at1 2 _ rfl;have y4:=R3.at1 3 _ rfl;clear hl3 gr3 B8 hown2 hbW2;by_cases hz:s.2+t.2=0
        ·have hs0:sgnZ (s.2+t.2).num=0:=by rw [hz];rfl
         rw [if_pos hz] at hR;rw [hs0] at hsgn
         go_wp2_with (go_at_call 67;refine (hsgn _ (Below.refl _ _)).mono ?_;rintro en W4 ⟨rfl,hb4⟩)
         have hown4:=hown3.on hb4;have hbW4:=hbW3.trans (hb4.mono hbW3.size);go_roundw
         case measure=>simp [intOf];omega
         case rel=>exact⟨i+1,j+1,M,by go_num,by go_num,by omega,by omega,zH hown4,zH (by rw [hR.out,hp1.out,hq1.out]),by omega,hbW4⟩
        ·have hs0:=sgnZ_ne hz;rw [if_neg hz] at hR;generalize sgnZ (s.2+t.2).num=sg at hs0 hsgn;have hs1:(sg != 0)=true:=by simpa using hs0
         go_upto_region 11 with (go_at_call 67;refine (hsgn _ (Below.refl _ _)).mono ?_;rintro en W4 ⟨rfl,hb4⟩)
         have hown4:=hown3.on hb4;have hbW4:=hbW3.trans (hb4.mono hbW3.size);have R4:=R3.on hb4;have h884:=h88'.on hb4;have hxo4:some x≠u5.ownBlock:=fun h=>hxo h.symm;obtain⟨rc,hrcE⟩:∃ rc,rc=[Value.bool n5,.slice a5 k5 c5,.bool n6,.slice a6 k6 c6]:=⟨_,rfl⟩;have hrc:rc.length=4:=by rw [hrcE];rfl
         rw [show (Value.agg #[.bool n5,.slice a5 k5 c5,.bool n6,.slice a6 k6 c6])=.agg rc.toArray by rw [hrcE]] at h884;rw [<- hrcE] at R4;clear hbW3 hown3 R3 h88 h88' hsgn y1 y2 y3 y4;refine wp_region_L mixed (u5.ownBlock) (monoT) (hown4.okr) [.eq (u5),.eq (.slice (some ⟨ba,oa,none⟩) p.length cp),.eq (.int .i64 i),.eq (.pointer (some ⟨ba,oa+i*8,none⟩)),.eq (.pointer (some ⟨ba,oa+i*8,none⟩)),.eq (.agg (exC s.1).toArray),.eq (.agg (rc).toArray),.eq (.agg (exC s.1++rc).toArray),.new1 elTerm elTerm_okT ((s.1,s.2+t.2)),.row elTerm (w.heap.size) W4.heap.size (M++[(s.1,s.2+t.2)])] [92,93,94,95,96,97,98,99,100,101] rfl rfl rfl rfl ⟨?_,?_,?_,?_,?_,?_,?_,?_,?_,?_,trivial⟩ ?_
         ·exact fun _ _ a _ _ _=>xM rfl (a 5 rfl)
         ·exact fun _ _ a _ _ _=>xM rfl (a 0 rfl)
         ·exact fun _ _ a _ _ _=>xM rfl (a 6 rfl)
         ·exact fun _ _ _ _ _ e=>pI rfl Tryz.underlying27 ba oa i (hil) (e.1 rfl) (e.2.1 rfl)
         ·exact fun _ _ _ _ _ e=>goOn_plain rfl (xF0 rfl (e.1 rfl))
         ·intro A w1 hA hL hS he;have hbw:Below w.heap.size w w1:=hbW4.trans (hL.belowAt hbW4.size hbase);exact pL rfl (cells_ex (hCa.on hbw)) Tryz.underlying36 (show (exC s.1).length=4 from rfl) (he.1 rfl)
         ·exact fun _ _ a hL _ _=>pL rfl ((R4.lr hL hxo4).range 0 rc (fun j v h=>by rw [Nat.zero_add];exact h)) Tryz.underlying41 (hrc) (a 8 rfl)
         ·intro A w1 hA hL hS he;have h97:=eT 97 (he.1 rfl);have h98:=eT 98 (he.2.1 rfl);exact goOn_plain rfl (stepG_pure rfl rfl (execOp_build rfl (by simp only [List.map_toArray,List.map_cons,List.map_nil,h97,h98];exact run_build37 _ _ _ (hrc))))
         ·intro A w1 hA hL hS he;have hb:=hS rfl;have h99:=eT 99 (he.1 rfl);refine goOn_plain rfl ?_;have hE:(elTerm:El _).E w1 _ ((s.1,s.2+t.2)):=⟨_,rfl,(h884.on hb).cellsC⟩;refine stepG_new1 rfl rfl ((hown4.okr).lr hL) hE (execOp_buildSlice rfl ?_) (fun _ _ h=>h);simp only [List.map_toArray,List.map_cons,List.map_nil,h99];exact run_new1_elTermP _ _ ((elTerm).len hE)
         ·intro A w1 hA hL hS he;have hb:=hS rfl;have hbw:Below w.heap.size w w1:=hbW4.trans (hL.belowAt hbW4.size hbase);have h92:=eT 92 (he.1 rfl);obtain⟨v100,h100,f100⟩:=fT 100 (he.2.1 rfl);exact goOn_plain rfl (stepG_append rfl rfl rfl Tryz.underlying27 info_elTerm h92 h100 (hown4.on hb) rfl rfl (isSl_of_new f100) (by simp;omega) (hbw.size) hL.1.size (fun _ _ h1 h2=>⟨h1,h2⟩))
         ·intro W5 hL5;simp only [TailL,FactL.eq,FactL.new1,FactL.row,FactL.asPure,FactL.of,FactL.fragile,lZ];rintro v100 - v101 ⟨hown5,hnew⟩;go_frame;have hbW5:=hbW4.trans (hL5.belowAt hbW4.size hbase);go_wp2;go_roundw
          case measure=>simp [intOf];omega
          case rel=>exact⟨i+1,j+1,M++[(s.1,s.2+t.2)],by go_num,by go_num,by omega,by omega,zH hown5,zH (by rw [hR.out,hp1.out,hq1.out];simp),by simp;omega,hbW5⟩
      ·have hmg:=mg2_true hg2.out.symm;rw [hmg] at hR;clear hmg hg1 hg2;have h8:(exC t.1++rb).length=8:=by rw [List.length_append,hlb];rfl
       go_upto_region 7 with (fail)
       refine wp_region_S trivial (u5.ownBlock) (monoT) (hown.okr) [.eq (u5),.eq (.slice (some ⟨bq,oq,none⟩) q.length cq),.eq (.int .i64 j),.eq (.pointer (some ⟨bq,oq+j*8,none⟩)),.eq (.agg (exC t.1++rb).toArray),.new1 elTerm elTerm_okT (t),.row elTerm (w.heap.size) wc.heap.size (M++[t])] [69,70,71,72,73,74,75] rfl rfl rfl rfl ⟨?_,?_,?_,?_,?_,?_,?_,trivial⟩ ?_
       ·exact fun _ _ a _ _ _=>xM rfl (a 5 rfl)
       ·exact fun _ _ a _ _ _=>xM rfl (a 1 rfl)
       ·exact fun _ _ a _ _ _=>xM rfl (a 7 rfl)
       ·exact fun _ _ _ _ _ e=>pI rfl Tryz.underlying27 bq oq j (hjl) (e.1 rfl) (e.2.1 rfl)
       ·intro A w1 hA hL hS he;have hbw:Below w.heap.size w w1:=hbr.trans (hL.belowAt hbr.size hbase);exact pL rfl ((hCb.on hbw).range) Tryz.underlying43 (h8) (he.1 rfl)
       ·intro A w1 hA hL hS he;have hbw:Below w.heap.size w w1:=hbr.trans (hL.belowAt hbr.size hbase);have h73:=eT 73 (he.1 rfl);refine goOn_plain rfl ?_;have hE:(elTerm:El _).E w1 _ (t):=⟨_,rfl,hrb.on hbw⟩;refine stepG_new1 rfl rfl ((hown.okr).lr hL) hE (execOp_buildSlice rfl ?_) (fun _ _ h=>h);simp only [List.map_toArray,List.map_cons,List.map_nil,h73];exact run_new1_elTermP _ _ ((elTerm).len hE)
       ·intro A w1 hA hL hS he;have hb:=hS rfl;have hbw:Below w.heap.size w w1:=hbr.trans (hL.belowAt hbr.size hbase);have h69:=eT 69 (he.1 rfl);obtain⟨v74,h74,f74⟩:=fT 74 (he.2.1 rfl);exact goOn_plain rfl (stepG_append rfl rfl rfl Tryz.underlying27 info_elTerm h69 h74 (hown.on hb) rfl rfl (isSl_of_new f74) (by simp;omega) (hbw.size) hL.1.size (fun _ _ h1 h2=>⟨h1,h2⟩))
       ·intro W5 hL5;simp only [TailL,FactL.eq,FactL.new1,FactL.row,FactL.asPure,FactL.of,FactL.fragile,lZ];rintro v74 - v75 ⟨hown5,hnew⟩;go_frame;have hbW5:=hbr.trans (hL5.belowAt hbr.size hbase);go_wp2;go_roundw
        case measure=>simp [intOf];omega
        case rel=>exact⟨i,j+1,M++[t],rfl,by go_num,by omega,by omega,zH hown5,zH (by rw [hR.out,hq1.out];simp),by simp;omega,hbW5⟩
    ·obtain⟨s,P2,hP,hmg⟩:=mg1_true hg1.out.symm hnd.out;obtain⟨hp1,hpi,hil⟩:=drop_cons' hP;obtain⟨ba,oa,ra,rfl,hra,hCa⟩:=cell_term hp.out hpi;have hla:=hra.len;rw [hmg] at hR;have hil':(i:Int)<(p.length:Int):=by omega
     clear hmg hg1 hnd hP;replace hp1:=zH hp1;have h8:(exC s.1++ra).length=8:=by rw [List.length_append,hla];rfl
     replace hown:=hown.out;have hbase:∀ k,u5.ownBlock=some k->w.heap.size<=k:=fun k hk=>(hown.base_le k hk).1
     go_upto_region 4 with (fail)
     refine wp_region_S trivial (u5.ownBlock) (monoT) (hown.okr) [.eq (u5),.eq (.slice (some ⟨ba,oa,none⟩) p.length cp),.eq (.int .i64 i),.eq (.pointer (some ⟨ba,oa+i*8,none⟩)),.eq (.agg (exC s.1++ra).toArray),.new1 elTerm elTerm_okT (s),.row elTerm (w.heap.size) wc.heap.size (M++[s])] [43,44,45,46,47,48,49] rfl rfl rfl rfl ⟨?_,?_,?_,?_,?_,?_,?_,trivial⟩ ?_
     ·exact fun _ _ a _ _ _=>xM rfl (a 5 rfl)
     ·exact fun _ _ a _ _ _=>xM rfl (a 0 rfl)
     ·exact fun _ _ a _ _ _=>xM rfl (a 6 rfl)
     ·exact fun _ _ _ _ _ e=>pI rfl Tryz.underlying27 ba oa i (hil) (e.1 rfl) (e.2.1 rfl)
     ·intro A w1 hA hL hS he;have hbw:Below w.heap.size w w1:=hbr.trans (hL.belowAt hbr.size hbase);exact pL rfl ((hCa.on hbw).range) Tryz.underlying43 (h8) (he.1 rfl)
     ·intro A w1 hA hL hS he;have hbw:Below w.heap.size w w1:=hbr.trans (hL.belowAt hbr.size hbase);have h47:=eT 47 (he.1 rfl);refine goOn_plain rfl ?_;have hE:(elTerm:El _).E w1 _ (s):=⟨_,rfl,hra.on hbw⟩;refine stepG_new1 rfl rfl ((hown.okr).lr hL) hE (execOp_buildSlice rfl ?_) (fun _ _ h=>h);simp only [List.map_toArray,List.map_cons,List.map_nil,h47];exact run_new1_elTermP _ _ ((elTerm).len hE)
     ·intro A w1 hA hL hS he;have hb:=hS rfl;have hbw:Below w.heap.size w w1:=hbr.trans (hL.belowAt hbr.size hbase);have h43:=eT 43 (he.1 rfl);obtain⟨v48,h48,f48⟩:=fT 48 (he.2.1 rfl);exact goOn_plain rfl (stepG_append rfl rfl rfl Tryz.underlying27 info_elTerm h43 h48 (hown.on hb) rfl rfl (isSl_of_new f48) (by simp;omega) (hbw.size) hL.1.size (fun _ _ h1 h2=>⟨h1,h2⟩))
     ·intro W5 hL5;simp only [TailL,FactL.eq,FactL.new1,FactL.row,FactL.asPure,FactL.of,FactL.fragile,lZ];rintro v48 - v49 ⟨hown5,hnew⟩;go_frame;have hbW5:=hbr.trans (hL5.belowAt hbr.size hbase);go_wp2;go_roundw
      case measure=>simp [intOf];omega
      case rel=>exact⟨i+1,j,M++[s],by go_num,rfl,by omega,by omega,zH hown5,zH (by rw [hR.out,hp1.out];simp),by simp;omega,hbW5⟩
  ·have hi':i=p.length:=by omega
   have hj':j=q.length:=by omega
   rw [hi',hj',List.drop_length,List.drop_length,mergeP_nil,List.append_nil] at hR;have g1:¬ (i:Int)<(p.length:Int):=by omega
   have g2:¬ (j:Int)<(q.length:Int):=by omega
   clear hi' hj';go_wp2;go_ret;exact⟨_,rfl,by rw [hR.out];exact hown.out,hbr⟩
theorem add7_any (vp vq:Value) (p q:List Trm) (w:World) (hp:IsPoly w vp p) (hq:IsPoly w vq q) (rp:∀ t∈p,Rs t.2) (rq:∀ t∈q,Rs t.2) (lp:p.length<=100000000) (lq:q.length<=100000000) :
  Calls Tryz.prog 39 #[vp,vq] w (RetPoly w (mergeP p q)):=(add7_own vp vq p q w hp hq rp rq lp lq).mono fun _ _ h=>h.poly
end Go.Proofs.YtopclbeomcggiaaGreat
