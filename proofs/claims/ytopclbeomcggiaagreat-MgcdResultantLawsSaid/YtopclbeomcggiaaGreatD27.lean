/- The reference's polynomials: Add. The reference's polynomials: Deg, Coeff, Coeffs. -/
import Derived.Test.YtopclbeomcggiaaGreatD26
set_option linter.unusedVariables false
set_option linter.unusedSimpArgs false
section
namespace Q
def mg1 : List Trm → List Trm → Bool
 | _,[]=>true
 | [],_ :: _=>false
 | s :: _,t :: _=>s.1.gt t.1
def mg2 : List Trm → List Trm → Bool
 | [],_=>true
 | _ :: _,[]=>false
 | s :: _,t :: _=>t.1.gt s.1
theorem mg1_true {P Q : List Trm} (h : mg1 P Q=true) (hne : P ≠ [] ∨ Q ≠ []) : ∃ s P2,P=s :: P2 ∧ mergeP P Q=s :: mergeP P2 Q:=by
 cases Q with
 | nil=>cases P with
  | nil=>simp at hne
  | cons s P2=>exact ⟨s,P2,rfl,by rw [Q.mergeP_nil,Q.mergeP_nil]⟩
 | cons t Q2=>cases P with
  | nil=>cases h
  | cons s P2=>exact ⟨s,P2,rfl,Go.Proofs.YtopclbeomcggiaaGreat.mergeP_gt h⟩
theorem mg1_false {P Q : List Trm} (h : mg1 P Q=false) : ∃ t Q2,Q=t :: Q2:=by
 cases Q with
 | nil=>cases P <;> cases h
 | cons t Q2=>exact ⟨t,Q2,rfl⟩
theorem mg2_true {P Q2 : List Trm} {t : Trm} (h : mg2 P (t :: Q2)=true) : mergeP P (t :: Q2)=t :: mergeP P Q2:=by
 cases P with
 | nil=>rw [mergeP_nil',mergeP_nil']
 | cons s P2=>exact Go.Proofs.YtopclbeomcggiaaGreat.mergeP_lt h
theorem mg2_false {P Q2 : List Trm} {t : Trm} (h1 : mg1 P (t :: Q2)=false) (h : mg2 P (t :: Q2)=false) : ∃ s P2,P=s :: P2 ∧ s.1=t.1 ∧ mergeP P (t :: Q2)=if s.2 + t.2=0 then mergeP P2 Q2 else (s.1,s.2 + t.2) :: mergeP P2 Q2:=by
 cases P with
 | nil=>cases h
 | cons s P2 =>
  have he : s.1=t.1:=by
   rcases Classical.em (s.1=t.1) with e | e
   ·exact e
   ·have:=Ex.gt_total (show s.1.gt t.1=false from h1) e
    rw [show t.1.gt s.1=false from h] at this; cases this
  exact ⟨s,P2,rfl,he,Go.Proofs.YtopclbeomcggiaaGreat.mergeP_eq' he⟩
end Q
namespace Go.Proofs.YtopclbeomcggiaaGreat
open Go.RowKit Q Go.WideMaps Go.Maps
set_option maxHeartbeats 8000000 in
set_option maxRecDepth 100000 in
theorem add7_own (vp vq : Value) (p q : List Trm) (w : World) (hp : IsPoly w vp p) (hq : IsPoly w vq q) (rp : ∀ t ∈ p,Rs t.2) (rq : ∀ t ∈ q,Rs t.2) (lp : p.length ≤ 1000000) (lq : q.length ≤ 1000000) :
  Calls Tryz.prog 39 #[vp,vq] w (RetOwn w (mergeP p q)):=by
 obtain ⟨ap,cp,rfl,hcp⟩:=hp.shape
 obtain ⟨aq,cq,rfl,hcq⟩:=hq.shape
 replace rp:=Lib.hid rp
 replace rq:=Lib.hid rq
 obtain ⟨R,hR⟩ : ∃ R,R=mergeP p q:=⟨_,rfl⟩
 rw [← hR]
 replace hR:=Lib.hid hR
 go_enter Tryz.func39,Tryz.ntmps39
 go_wp2
 have hown0:=own_lit0 elTerm w
 have hb0 : Below w.heap.size w (w.alloc (.cells #[] monoT)):=(Below.refl _ _).alloc (Nat.le_refl _) _
 change OwnPoly w.heap.size (w.alloc (.cells #[] 43)) _ _ at hown0
 change Below w.heap.size w (w.alloc (.cells #[] 43)) at hb0
 replace hp:=Lib.hid hp
 replace hq:=Lib.hid hq
 go_loopw [5,6,7] (fun o vi vj wr=>∃ (i j : Nat) (M : List Trm),vi=.int .i64 i ∧ vj=.int .i64 j ∧ i ≤ p.length ∧ j ≤ q.length ∧ Hid (OwnPoly w.heap.size wr o M) ∧ Hid (R=M ++ mergeP (p.drop i) (q.drop j)) ∧ M.length ≤ i + j ∧ Below w.heap.size w wr) (fun _ vi vj _=>p.length + q.length - ((intOf vi).toNat + (intOf vj).toNat))
 case atStart=>exact ⟨0,0,[],rfl,rfl,by omega,by omega,Lib.hid hown0,Lib.hid (by simpa using hR.out),by simp,hb0⟩
 case round =>
  clear hown0 hb0
  obtain ⟨i,j,M,rfl,rfl,hi,hj,hown,hR,hM,hbr⟩:=hrel
  by_cases hd : i < p.length ∨ j < q.length
  ·have hnd : p.drop i ≠ [] ∨ q.drop j ≠ []:=by
    rcases hd with h | h
    ·left; intro e; have:=congrArg List.length e; simp at this; omega
    ·right; intro e; have:=congrArg List.length e; simp at this; omega
   have hd1 : ¬ i < p.length → j < q.length:=fun h=>by omega
   replace hnd:=Lib.hid hnd
   clear hd
   go_upto_region 2 with (fail)
   go_cut [10,11,12,13,14,15,16,17,18,19] (fun _ _ _ _ _ _ _ _ _ v19 wc=>v19=.bool true ∧ wr=wc)
   case first =>
    by_cases hil : i < p.length
    ·have g1 : (i : Int) < (p.length : Int):=by omega
     go_wp2
     go_meet
     case rel=>exact ⟨rfl,rfl⟩
    ·have g1 : ¬ (i : Int) < (p.length : Int):=by omega
     have g2 : (j : Int) < (q.length : Int):=by have:=hd1 hil; omega
     go_wp2
     go_meet
     case rel=>exact ⟨rfl,rfl⟩
   case rest =>
   obtain ⟨rfl,rfl⟩:=hcut
   go_upto_region 3 with (fail)
   obtain ⟨g1,hg1⟩ : ∃ g,g=mg1 (p.drop i) (q.drop j):=⟨_,rfl⟩
   replace hg1:=Lib.hid hg1
   go_cut [20,21,22,23,24,25,26,27,28,29,30,31,32,33,34,35,36,37,38,39,40,41,42] (fun _ _ _ _ _ _ _ _ _ _ _ _ _ _ _ _ _ _ _ _ _ _ v42 wc=>v42=.bool g1 ∧ Below wr.heap.size wr wc)
   case first =>
    clear hown hR
    by_cases hjl : j < q.length
    ·have e1 : ((j : Int) == (q.length : Int))=false:=by simp; omega
     have e2 : ¬ (j : Int)=(q.length : Int):=by omega
     by_cases hil : i < p.length
     ·have e3 : (i : Int) < (p.length : Int):=by omega
      have hpi : p[i]?=some p[i]:=List.getElem?_eq_getElem hil
      have hqj : q[j]?=some q[j]:=List.getElem?_eq_getElem hjl
      have hg : g1=p[i].1.gt q[j].1:=by rw [hg1.out,List.drop_eq_getElem_cons hil,List.drop_eq_getElem_cons hjl]; rfl
      generalize p[i]=s at hpi hg
      generalize q[j]=t at hqj hg
      obtain ⟨ba,oa,ra,rfl,hra,hCa⟩:=cell_term hp.out hpi
      obtain ⟨bq,oq,rb,rfl,hrb,hCb⟩:=cell_term hq.out hqj
      refine wp_region_L mixed (none) (0) (Okr.none) [.eq (.int .i64 j),.eq (.slice (some ⟨bq,oq,none⟩) q.length cq),.eq (.int .i64 q.length),.eq (.bool false),.eq (.bool false),.eq (.int .i64 i),.eq (.slice (some ⟨ba,oa,none⟩) p.length cp),.eq (.int .i64 p.length),.eq (.bool true),.eq (.bool true),.eq (.slice (some ⟨ba,oa,none⟩) p.length cp),.eq (.int .i64 i),.eq (.pointer (some ⟨ba,oa + i * 8,none⟩)),.eq (.pointer (some ⟨ba,oa + i * 8,none⟩)),.eq (.agg (exC s.1).toArray),.eq (.slice (some ⟨bq,oq,none⟩) q.length cq),.eq (.int .i64 j),.eq (.pointer (some ⟨bq,oq + j * 8,none⟩)),.eq (.pointer (some ⟨bq,oq + j * 8,none⟩)),.eq (.agg (exC t.1).toArray),.ret (.bool (s.1.gt t.1)),.eq (.bool (s.1.gt t.1)),.eq (.bool (s.1.gt t.1))] [20,21,22,23,24,25,26,27,28,29,30,31,32,33,34,35,36,37,38,39,40,41,42] rfl rfl rfl rfl ⟨?_,?_,?_,?_,?_,?_,?_,?_,?_,?_,?_,?_,?_,?_,?_,?_,?_,?_,?_,?_,?_,?_,?_,trivial⟩ ?_
      ·exact fun A w1 hA hL hS he=>goOn_plain rfl (stepG_mv rfl rfl (hA 7 rfl))
      ·exact fun A w1 hA hL hS he=>goOn_plain rfl (stepG_mv rfl rfl (hA 1 rfl))
      ·intro A w1 hA hL hS he
       have h21 : A.eval (.tmp 21)=_:=he.1 rfl
       refine goOn_plain rfl (stepG_pure rfl rfl ?_)
       generalize A.eval=ev at *
       go_simp
      ·intro A w1 hA hL hS he
       have h20 : A.eval (.tmp 20)=_:=he.1 rfl
       have h22 : A.eval (.tmp 22)=_:=he.2.1 rfl
       refine goOn_plain rfl (stepG_pure rfl rfl ?_)
       generalize A.eval=ev at *
       go_simp
      ·exact fun A w1 hA hL hS he=>goOn_plain rfl (stepG_mv rfl rfl (he.1 rfl))
      ·exact fun A w1 hA hL hS he=>goOn_yes rfl rfl (he.1 rfl) (stepG_mv rfl rfl (hA 6 rfl))
      ·exact fun A w1 hA hL hS he=>goOn_yes rfl rfl (he.1 rfl) (stepG_mv rfl rfl (hA 0 rfl))
      ·intro A w1 hA hL hS he
       have h24 : A.eval (.tmp 24)=_:=he.2.1 rfl
       have h26 : A.eval (.tmp 26)=_:=he.1 rfl
       refine goOn_yes rfl rfl h24 ?_
       refine stepG_pure rfl rfl ?_
       generalize A.eval=ev at *
       go_simp
      ·intro A w1 hA hL hS he
       have h24 : A.eval (.tmp 24)=_:=he.2.2.1 rfl
       have h25 : A.eval (.tmp 25)=_:=he.1 rfl
       have h27 : A.eval (.tmp 27)=_:=he.2.1 rfl
       refine goOn_yes rfl rfl h24 ?_
       refine stepG_pure rfl rfl ?_
       generalize A.eval=ev at *
       go_simp
      ·exact fun A w1 hA hL hS he=>goOn_yes rfl rfl (he.2.1 rfl) (stepG_mv rfl rfl (he.1 rfl))
      ·exact fun A w1 hA hL hS he=>goOn_yes rfl rfl (he.1 rfl) (stepG_mv rfl rfl (hA 0 rfl))
      ·exact fun A w1 hA hL hS he=>goOn_yes rfl rfl (he.1 rfl) (stepG_mv rfl rfl (hA 6 rfl))
      ·intro A w1 hA hL hS he
       have h29 : A.eval (.tmp 29)=_:=he.2.2.1 rfl
       have h30 : A.eval (.tmp 30)=_:=he.1 rfl
       have h31 : A.eval (.tmp 31)=_:=he.2.1 rfl
       refine goOn_yes rfl rfl h29 ?_
       exact stepG_pure rfl rfl (execOp_index rfl (by rw [h30,h31]; exact run_index Tryz.underlying27 (by kernel_rfl) w1 ba oa _ _ i .i64 _ (by first | rfl | simp | omega) (hil)))
      ·intro A w1 hA hL hS he
       have h29 : A.eval (.tmp 29)=_:=he.2.1 rfl
       have h32 : A.eval (.tmp 32)=_:=he.1 rfl
       refine goOn_yes rfl rfl h29 ?_
       exact stepG_pure rfl rfl (execOp_field rfl (by rw [h32]; exact run_field37_0 _ _ _))
      ·intro A w1 hA hL hS he
       have hb:=hL.below
       have hbw : Below w.heap.size w w1:=hbr.trans (hb.mono hbr.size)
       have h29 : A.eval (.tmp 29)=_:=he.2.1 rfl
       have h33 : A.eval (.tmp 33)=_:=he.1 rfl
       refine goOn_yes rfl rfl h29 ?_
       exact stepG_pure rfl rfl (execOp_load rfl (by rw [h33]; exact run_loadAt_mid w1 _ _ _ _ _ (cells_ex (hCa.on hbw)) Tryz.underlying36 rfl (by rw [show (exC s.1).length=4 from rfl]; kernel_rfl)))
      ·exact fun A w1 hA hL hS he=>goOn_yes rfl rfl (he.1 rfl) (stepG_mv rfl rfl (hA 1 rfl))
      ·exact fun A w1 hA hL hS he=>goOn_yes rfl rfl (he.1 rfl) (stepG_mv rfl rfl (hA 7 rfl))
      ·intro A w1 hA hL hS he
       have h29 : A.eval (.tmp 29)=_:=he.2.2.1 rfl
       have h35 : A.eval (.tmp 35)=_:=he.1 rfl
       have h36 : A.eval (.tmp 36)=_:=he.2.1 rfl
       refine goOn_yes rfl rfl h29 ?_
       exact stepG_pure rfl rfl (execOp_index rfl (by rw [h35,h36]; exact run_index Tryz.underlying27 (by kernel_rfl) w1 bq oq _ _ j .i64 _ (by first | rfl | simp | omega) (hjl)))
      ·intro A w1 hA hL hS he
       have h29 : A.eval (.tmp 29)=_:=he.2.1 rfl
       have h37 : A.eval (.tmp 37)=_:=he.1 rfl
       refine goOn_yes rfl rfl h29 ?_
       exact stepG_pure rfl rfl (execOp_field rfl (by rw [h37]; exact run_field37_0 _ _ _))
      ·intro A w1 hA hL hS he
       have hb:=hL.below
       have hbw : Below w.heap.size w w1:=hbr.trans (hb.mono hbr.size)
       have h29 : A.eval (.tmp 29)=_:=he.2.1 rfl
       have h38 : A.eval (.tmp 38)=_:=he.1 rfl
       refine goOn_yes rfl rfl h29 ?_
       exact stepG_pure rfl rfl (execOp_load rfl (by rw [h38]; exact run_loadAt_mid w1 _ _ _ _ _ (cells_ex (hCb.on hbw)) Tryz.underlying36 rfl (by rw [show (exC t.1).length=4 from rfl]; kernel_rfl)))
      ·intro A w1 hA hL hS he
       have hb:=hS rfl
       have h29 : A.eval (.tmp 29)=_:=he.2.2.1 rfl
       have h34 : A.eval (.tmp 34)=_:=he.1 rfl
       have h39 : A.eval (.tmp 39)=_:=he.2.1 rfl
       have hf0 : A.eval (.func 68)=.func (.func 68) #[] #[]:=rfl
       refine goOn_yes rfl rfl h29 ?_
       refine stepG_call (f:=68) (args:=#[.agg (exC s.1).toArray,.agg (exC t.1).toArray]) rfl rfl ?_ ?_
       ·generalize A.eval=ev at *
        go_simp
       ·refine (greater_any s.1 t.1 _).mono ?_
        rintro e w' ⟨rfl,hb'⟩
        exact ⟨_,rfl,hb',rfl⟩
      ·exact fun A w1 hA hL hS he=>goOn_yes rfl rfl (he.2.2.1 rfl) (stepG_pk rfl (he.1 rfl) rfl (he.2.1 rfl))
      ·exact fun A w1 hA hL hS he=>goOn_plain rfl (stepG_pk rfl (he.1 rfl) rfl (he.2.1 rfl))
      ·intro W2 hL2
       simp only [TailL,FactL.eq,FactL.ret,List.length_cons,List.length_nil,List.drop_succ_cons,List.drop_zero]
       go_frame
       go_wp2
       go_meet
       case rel=>exact ⟨by rw [hg],hL2.below⟩
     ·have e3 : ¬ (i : Int) < (p.length : Int):=by omega
      have hg : g1=false:=by rw [hg1.out,List.drop_of_length_le (by omega),List.drop_eq_getElem_cons hjl]; rfl
      refine wp_region_L mixed (none) (0) (Okr.none) [.eq (.int .i64 j),.eq (.slice aq q.length cq),.eq (.int .i64 q.length),.eq (.bool false),.eq (.bool false),.eq (.int .i64 i),.eq (.slice ap p.length cp),.eq (.int .i64 p.length),.eq (.bool false),.eq (.bool false),.eq undef,.eq undef,.eq undef,.eq undef,.eq undef,.eq undef,.eq undef,.eq undef,.eq undef,.eq undef,.eq undef,.eq (.bool false),.eq (.bool false)] [20,21,22,23,24,25,26,27,28,29,30,31,32,33,34,35,36,37,38,39,40,41,42] rfl rfl rfl rfl ⟨?_,?_,?_,?_,?_,?_,?_,?_,?_,?_,?_,?_,?_,?_,?_,?_,?_,?_,?_,?_,?_,?_,?_,trivial⟩ ?_
      ·exact fun A w1 hA hL hS he=>goOn_plain rfl (stepG_mv rfl rfl (hA 7 rfl))
      ·exact fun A w1 hA hL hS he=>goOn_plain rfl (stepG_mv rfl rfl (hA 1 rfl))
      ·intro A w1 hA hL hS he
       have h21 : A.eval (.tmp 21)=_:=he.1 rfl
       refine goOn_plain rfl (stepG_pure rfl rfl ?_)
       generalize A.eval=ev at *
       go_simp
      ·intro A w1 hA hL hS he
       have h20 : A.eval (.tmp 20)=_:=he.1 rfl
       have h22 : A.eval (.tmp 22)=_:=he.2.1 rfl
       refine goOn_plain rfl (stepG_pure rfl rfl ?_)
       generalize A.eval=ev at *
       go_simp
      ·exact fun A w1 hA hL hS he=>goOn_plain rfl (stepG_mv rfl rfl (he.1 rfl))
      ·exact fun A w1 hA hL hS he=>goOn_yes rfl rfl (he.1 rfl) (stepG_mv rfl rfl (hA 6 rfl))
      ·exact fun A w1 hA hL hS he=>goOn_yes rfl rfl (he.1 rfl) (stepG_mv rfl rfl (hA 0 rfl))
      ·intro A w1 hA hL hS he
       have h24 : A.eval (.tmp 24)=_:=he.2.1 rfl
       have h26 : A.eval (.tmp 26)=_:=he.1 rfl
       refine goOn_yes rfl rfl h24 ?_
       refine stepG_pure rfl rfl ?_
       generalize A.eval=ev at *
       go_simp
      ·intro A w1 hA hL hS he
       have h24 : A.eval (.tmp 24)=_:=he.2.2.1 rfl
       have h25 : A.eval (.tmp 25)=_:=he.1 rfl
       have h27 : A.eval (.tmp 27)=_:=he.2.1 rfl
       refine goOn_yes rfl rfl h24 ?_
       refine stepG_pure rfl rfl ?_
       generalize A.eval=ev at *
       go_simp
      ·exact fun A w1 hA hL hS he=>goOn_yes rfl rfl (he.2.1 rfl) (stepG_mv rfl rfl (he.1 rfl))
      ·exact fun A w1 hA hL hS he=>goOn_no (x:=false) rfl rfl (he.1 rfl) rfl rfl
      ·exact fun A w1 hA hL hS he=>goOn_no (x:=false) rfl rfl (he.1 rfl) rfl rfl
      ·exact fun A w1 hA hL hS he=>goOn_no (x:=false) rfl rfl (he.2.2.1 rfl) rfl rfl
      ·exact fun A w1 hA hL hS he=>goOn_no (x:=false) rfl rfl (he.2.1 rfl) rfl rfl
      ·exact fun A w1 hA hL hS he=>goOn_no (x:=false) rfl rfl (he.2.1 rfl) rfl rfl
      ·exact fun A w1 hA hL hS he=>goOn_no (x:=false) rfl rfl (he.1 rfl) rfl rfl
      ·exact fun A w1 hA hL hS he=>goOn_no (x:=false) rfl rfl (he.1 rfl) rfl rfl
      ·exact fun A w1 hA hL hS he=>goOn_no (x:=false) rfl rfl (he.2.2.1 rfl) rfl rfl
      ·exact fun A w1 hA hL hS he=>goOn_no (x:=false) rfl rfl (he.2.1 rfl) rfl rfl
      ·exact fun A w1 hA hL hS he=>goOn_no (x:=false) rfl rfl (he.2.1 rfl) rfl rfl
      ·exact fun A w1 hA hL hS he=>goOn_no (x:=false) rfl rfl (he.2.2.1 rfl) rfl rfl
      ·exact fun A w1 hA hL hS he=>goOn_yes rfl rfl (he.2.2.1 rfl) (stepG_pk rfl (he.1 rfl) rfl rfl)
      ·exact fun A w1 hA hL hS he=>goOn_plain rfl (stepG_pk rfl (he.1 rfl) rfl (he.2.1 rfl))
      ·intro W2 hL2
       simp only [TailL,FactL.eq,FactL.ret,List.length_cons,List.length_nil,List.drop_succ_cons,List.drop_zero]
       go_frame
       go_wp2
       go_meet
       case rel=>exact ⟨by rw [hg],hL2.below⟩
    ·have e2 : (j : Int)=(q.length : Int):=by omega
     have e1 : ((j : Int) == (q.length : Int))=true:=by simp; omega
     have hg : g1=true:=by rw [hg1.out,List.drop_of_length_le (l:=q) (by omega)]; rfl
     refine wp_region_L mixed (none) (0) (Okr.none) [.eq (.int .i64 j),.eq (.slice aq q.length cq),.eq (.int .i64 q.length),.eq (.bool true),.eq (.bool true),.eq undef,.eq undef,.eq undef,.eq undef,.eq undef,.eq undef,.eq undef,.eq undef,.eq undef,.eq undef,.eq undef,.eq undef,.eq undef,.eq undef,.eq undef,.eq undef,.eq undef,.eq (.bool true)] [20,21,22,23,24,25,26,27,28,29,30,31,32,33,34,35,36,37,38,39,40,41,42] rfl rfl rfl rfl ⟨?_,?_,?_,?_,?_,?_,?_,?_,?_,?_,?_,?_,?_,?_,?_,?_,?_,?_,?_,?_,?_,?_,?_,trivial⟩ ?_
     ·exact fun A w1 hA hL hS he=>goOn_plain rfl (stepG_mv rfl rfl (hA 7 rfl))
     ·exact fun A w1 hA hL hS he=>goOn_plain rfl (stepG_mv rfl rfl (hA 1 rfl))
     ·intro A w1 hA hL hS he
      have h21 : A.eval (.tmp 21)=_:=he.1 rfl
      refine goOn_plain rfl (stepG_pure rfl rfl ?_)
      generalize A.eval=ev at *
      go_simp
     ·intro A w1 hA hL hS he
      have h20 : A.eval (.tmp 20)=_:=he.1 rfl
      have h22 : A.eval (.tmp 22)=_:=he.2.1 rfl
      refine goOn_plain rfl (stepG_pure rfl rfl ?_)
      generalize A.eval=ev at *
      go_simp
     ·exact fun A w1 hA hL hS he=>goOn_plain rfl (stepG_mv rfl rfl (he.1 rfl))
     ·exact fun A w1 hA hL hS he=>goOn_no (x:=true) rfl rfl (he.1 rfl) rfl rfl
     ·exact fun A w1 hA hL hS he=>goOn_no (x:=true) rfl rfl (he.1 rfl) rfl rfl
     ·exact fun A w1 hA hL hS he=>goOn_no (x:=true) rfl rfl (he.2.1 rfl) rfl rfl
     ·exact fun A w1 hA hL hS he=>goOn_no (x:=true) rfl rfl (he.2.2.1 rfl) rfl rfl
     ·exact fun A w1 hA hL hS he=>goOn_no (x:=true) rfl rfl (he.2.1 rfl) rfl rfl
     ·exact fun A w1 hA hL hS he=>goOn_undef rfl rfl (he.1 rfl) rfl
     ·exact fun A w1 hA hL hS he=>goOn_undef rfl rfl (he.1 rfl) rfl
     ·exact fun A w1 hA hL hS he=>goOn_undef rfl rfl (he.2.2.1 rfl) rfl
     ·exact fun A w1 hA hL hS he=>goOn_undef rfl rfl (he.2.1 rfl) rfl
     ·exact fun A w1 hA hL hS he=>goOn_undef rfl rfl (he.2.1 rfl) rfl
     ·exact fun A w1 hA hL hS he=>goOn_undef rfl rfl (he.1 rfl) rfl
     ·exact fun A w1 hA hL hS he=>goOn_undef rfl rfl (he.1 rfl) rfl
     ·exact fun A w1 hA hL hS he=>goOn_undef rfl rfl (he.2.2.1 rfl) rfl
     ·exact fun A w1 hA hL hS he=>goOn_undef rfl rfl (he.2.1 rfl) rfl
     ·exact fun A w1 hA hL hS he=>goOn_undef rfl rfl (he.2.1 rfl) rfl
     ·exact fun A w1 hA hL hS he=>goOn_undef rfl rfl (he.2.2.1 rfl) rfl
     ·exact fun A w1 hA hL hS he=>goOn_no (x:=true) rfl rfl (he.2.2.1 rfl) rfl rfl
     ·exact fun A w1 hA hL hS he=>goOn_plain rfl (stepG_pk rfl (he.1 rfl) rfl rfl)
     ·intro W2 hL2
      simp only [TailL,FactL.eq,FactL.ret,List.length_cons,List.length_nil,List.drop_succ_cons,List.drop_zero]
      go_frame
      go_wp2
      go_meet
      case rel=>exact ⟨by rw [hg],hL2.below⟩
   case rest =>
    obtain ⟨rfl,hbc⟩:=hcut
    replace hbr:=hbr.trans (hbc.mono hbr.size)
    replace hown:=Lib.hid (hown.out.on hbc)
    clear hbc hd1
    cases g1
    ·obtain ⟨t,Q2,hQ⟩:=mg1_false hg1.out.symm
     obtain ⟨hq1,hqj,hjl⟩:=drop_cons' hQ
     rw [hQ] at hg1 hR
     have hjl' : (j : Int) < (q.length : Int):=by omega
     obtain ⟨bq,oq,rb,rfl,hrb,hCb⟩:=cell_term hq.out hqj
     have hlb:=hrb.len
     clear hnd
     go_upto_region 6 with (fail)
     obtain ⟨g2,hg2⟩ : ∃ g,g=mg2 (p.drop i) (t :: Q2):=⟨_,rfl⟩
     replace hg2:=Lib.hid hg2
     replace hQ:=Lib.hid hQ
     replace hq1:=Lib.hid hq1
     go_cut [52,53,54,55,56,57,58,59,60,61,62,63,64,65,66,67,68] (fun _ _ _ _ _ _ _ _ _ _ _ _ _ _ _ _ v68 wd=>v68=.bool g2 ∧ Below wc.heap.size wc wd)
     case first =>
      clear hown hR
      by_cases hil : i < p.length
      ·have e1 : ((i : Int) == (p.length : Int))=false:=by simp; omega
       have e2 : ¬ (i : Int)=(p.length : Int):=by omega
       have hpi : p[i]?=some p[i]:=List.getElem?_eq_getElem hil
       have hg : g2=t.1.gt p[i].1:=by rw [hg2.out,List.drop_eq_getElem_cons hil]; rfl
       generalize p[i]=s at hpi hg
       obtain ⟨ba,oa,ra,rfl,hra,hCa⟩:=cell_term hp.out hpi
       refine wp_region_L mixed (none) (0) (Okr.none) [.eq (.int .i64 i),.eq (.slice (some ⟨ba,oa,none⟩) p.length cp),.eq (.int .i64 p.length),.eq (.bool false),.eq (.bool false),.eq (.slice (some ⟨bq,oq,none⟩) q.length cq),.eq (.int .i64 j),.eq (.pointer (some ⟨bq,oq + j * 8,none⟩)),.eq (.pointer (some ⟨bq,oq + j * 8,none⟩)),.eq (.agg (exC t.1).toArray),.eq (.slice (some ⟨ba,oa,none⟩) p.length cp),.eq (.int .i64 i),.eq (.pointer (some ⟨ba,oa + i * 8,none⟩)),.eq (.pointer (some ⟨ba,oa + i * 8,none⟩)),.eq (.agg (exC s.1).toArray),.ret (.bool (t.1.gt s.1)),.eq (.bool (t.1.gt s.1))] [52,53,54,55,56,57,58,59,60,61,62,63,64,65,66,67,68] rfl rfl rfl rfl ⟨?_,?_,?_,?_,?_,?_,?_,?_,?_,?_,?_,?_,?_,?_,?_,?_,?_,trivial⟩ ?_
       ·exact fun A w1 hA hL hS he=>goOn_plain rfl (stepG_mv rfl rfl (hA 6 rfl))
       ·exact fun A w1 hA hL hS he=>goOn_plain rfl (stepG_mv rfl rfl (hA 0 rfl))
       ·intro A w1 hA hL hS he
        have h53 : A.eval (.tmp 53)=_:=he.1 rfl
        refine goOn_plain rfl (stepG_pure rfl rfl ?_)
        generalize A.eval=ev at *
        go_simp
       ·intro A w1 hA hL hS he
        have h52 : A.eval (.tmp 52)=_:=he.1 rfl
        have h54 : A.eval (.tmp 54)=_:=he.2.1 rfl
        refine goOn_plain rfl (stepG_pure rfl rfl ?_)
        generalize A.eval=ev at *
        go_simp
       ·exact fun A w1 hA hL hS he=>goOn_plain rfl (stepG_mv rfl rfl (he.1 rfl))
       ·exact fun A w1 hA hL hS he=>goOn_yes rfl rfl (he.1 rfl) (stepG_mv rfl rfl (hA 1 rfl))
       ·exact fun A w1 hA hL hS he=>goOn_yes rfl rfl (he.1 rfl) (stepG_mv rfl rfl (hA 7 rfl))
       ·intro A w1 hA hL hS he
        have h56 : A.eval (.tmp 56)=_:=he.2.2.1 rfl
        have h57 : A.eval (.tmp 57)=_:=he.1 rfl
        have h58 : A.eval (.tmp 58)=_:=he.2.1 rfl
        refine goOn_yes rfl rfl h56 ?_
        exact stepG_pure rfl rfl (execOp_index rfl (by rw [h57,h58]; exact run_index Tryz.underlying27 (by kernel_rfl) w1 bq oq _ _ j .i64 _ (by first | rfl | simp | omega) (hjl)))
       ·intro A w1 hA hL hS he
        have h56 : A.eval (.tmp 56)=_:=he.2.1 rfl
        have h59 : A.eval (.tmp 59)=_:=he.1 rfl
        refine goOn_yes rfl rfl h56 ?_
        exact stepG_pure rfl rfl (execOp_field rfl (by rw [h59]; exact run_field37_0 _ _ _))
       ·intro A w1 hA hL hS he
        have hb:=hL.below
        have hbw : Below w.heap.size w w1:=hbr.trans (hb.mono hbr.size)
        have h56 : A.eval (.tmp 56)=_:=he.2.1 rfl
        have h60 : A.eval (.tmp 60)=_:=he.1 rfl
        refine goOn_yes rfl rfl h56 ?_
        exact stepG_pure rfl rfl (execOp_load rfl (by rw [h60]; exact run_loadAt_mid w1 _ _ _ _ _ (cells_ex (hCb.on hbw)) Tryz.underlying36 rfl (by rw [show (exC t.1).length=4 from rfl]; kernel_rfl)))
       ·exact fun A w1 hA hL hS he=>goOn_yes rfl rfl (he.1 rfl) (stepG_mv rfl rfl (hA 0 rfl))
       ·exact fun A w1 hA hL hS he=>goOn_yes rfl rfl (he.1 rfl) (stepG_mv rfl rfl (hA 6 rfl))
       ·intro A w1 hA hL hS he
        have h56 : A.eval (.tmp 56)=_:=he.2.2.1 rfl
        have h62 : A.eval (.tmp 62)=_:=he.1 rfl
        have h63 : A.eval (.tmp 63)=_:=he.2.1 rfl
        refine goOn_yes rfl rfl h56 ?_
        exact stepG_pure rfl rfl (execOp_index rfl (by rw [h62,h63]; exact run_index Tryz.underlying27 (by kernel_rfl) w1 ba oa _ _ i .i64 _ (by first | rfl | simp | omega) (hil)))
       ·intro A w1 hA hL hS he
        have h56 : A.eval (.tmp 56)=_:=he.2.1 rfl
        have h64 : A.eval (.tmp 64)=_:=he.1 rfl
        refine goOn_yes rfl rfl h56 ?_
        exact stepG_pure rfl rfl (execOp_field rfl (by rw [h64]; exact run_field37_0 _ _ _))
       ·intro A w1 hA hL hS he
        have hb:=hL.below
        have hbw : Below w.heap.size w w1:=hbr.trans (hb.mono hbr.size)
        have h56 : A.eval (.tmp 56)=_:=he.2.1 rfl
        have h65 : A.eval (.tmp 65)=_:=he.1 rfl
        refine goOn_yes rfl rfl h56 ?_
        exact stepG_pure rfl rfl (execOp_load rfl (by rw [h65]; exact run_loadAt_mid w1 _ _ _ _ _ (cells_ex (hCa.on hbw)) Tryz.underlying36 rfl (by rw [show (exC s.1).length=4 from rfl]; kernel_rfl)))
       ·intro A w1 hA hL hS he
        have hb:=hS rfl
        have h56 : A.eval (.tmp 56)=_:=he.2.2.1 rfl
        have h61 : A.eval (.tmp 61)=_:=he.1 rfl
        have h66 : A.eval (.tmp 66)=_:=he.2.1 rfl
        have hf0 : A.eval (.func 68)=.func (.func 68) #[] #[]:=rfl
        refine goOn_yes rfl rfl h56 ?_
        refine stepG_call (f:=68) (args:=#[.agg (exC t.1).toArray,.agg (exC s.1).toArray]) rfl rfl ?_ ?_
        ·generalize A.eval=ev at *
         go_simp
        ·refine (greater_any t.1 s.1 _).mono ?_
         rintro e w' ⟨rfl,hb'⟩
         exact ⟨_,rfl,hb',rfl⟩
       ·exact fun A w1 hA hL hS he=>goOn_plain rfl (stepG_pk rfl (he.1 rfl) rfl (he.2.1 rfl))
       ·intro W2 hL2
        simp only [TailL,FactL.eq,FactL.ret,List.length_cons,List.length_nil,List.drop_succ_cons,List.drop_zero]
        go_frame
        go_wp2
        go_meet
        case rel=>exact ⟨by rw [hg],hL2.below⟩
      ·have e2 : (i : Int)=(p.length : Int):=by omega
       have e1 : ((i : Int) == (p.length : Int))=true:=by simp; omega
       have hg : g2=true:=by rw [hg2.out,List.drop_of_length_le (l:=p) (by omega)]; rfl
       refine wp_region_L mixed (none) (0) (Okr.none) [.eq (.int .i64 i),.eq (.slice ap p.length cp),.eq (.int .i64 p.length),.eq (.bool true),.eq (.bool true),.eq undef,.eq undef,.eq undef,.eq undef,.eq undef,.eq undef,.eq undef,.eq undef,.eq undef,.eq undef,.eq undef,.eq (.bool true)] [52,53,54,55,56,57,58,59,60,61,62,63,64,65,66,67,68] rfl rfl rfl rfl ⟨?_,?_,?_,?_,?_,?_,?_,?_,?_,?_,?_,?_,?_,?_,?_,?_,?_,trivial⟩ ?_
       ·exact fun A w1 hA hL hS he=>goOn_plain rfl (stepG_mv rfl rfl (hA 6 rfl))
       ·exact fun A w1 hA hL hS he=>goOn_plain rfl (stepG_mv rfl rfl (hA 0 rfl))
       ·intro A w1 hA hL hS he
        have h53 : A.eval (.tmp 53)=_:=he.1 rfl
        refine goOn_plain rfl (stepG_pure rfl rfl ?_)
        generalize A.eval=ev at *
        go_simp
       ·intro A w1 hA hL hS he
        have h52 : A.eval (.tmp 52)=_:=he.1 rfl
        have h54 : A.eval (.tmp 54)=_:=he.2.1 rfl
        refine goOn_plain rfl (stepG_pure rfl rfl ?_)
        generalize A.eval=ev at *
        go_simp
       ·exact fun A w1 hA hL hS he=>goOn_plain rfl (stepG_mv rfl rfl (he.1 rfl))
       ·exact fun A w1 hA hL hS he=>goOn_no (x:=true) rfl rfl (he.1 rfl) rfl rfl
       ·exact fun A w1 hA hL hS he=>goOn_no (x:=true) rfl rfl (he.1 rfl) rfl rfl
       ·exact fun A w1 hA hL hS he=>goOn_no (x:=true) rfl rfl (he.2.2.1 rfl) rfl rfl
       ·exact fun A w1 hA hL hS he=>goOn_no (x:=true) rfl rfl (he.2.1 rfl) rfl rfl
       ·exact fun A w1 hA hL hS he=>goOn_no (x:=true) rfl rfl (he.2.1 rfl) rfl rfl
       ·exact fun A w1 hA hL hS he=>goOn_no (x:=true) rfl rfl (he.1 rfl) rfl rfl
       ·exact fun A w1 hA hL hS he=>goOn_no (x:=true) rfl rfl (he.1 rfl) rfl rfl
       ·exact fun A w1 hA hL hS he=>goOn_no (x:=true) rfl rfl (he.2.2.1 rfl) rfl rfl
       ·exact fun A w1 hA hL hS he=>goOn_no (x:=true) rfl rfl (he.2.1 rfl) rfl rfl
       ·exact fun A w1 hA hL hS he=>goOn_no (x:=true) rfl rfl (he.2.1 rfl) rfl rfl
       ·exact fun A w1 hA hL hS he=>goOn_no (x:=true) rfl rfl (he.2.2.1 rfl) rfl rfl
       ·exact fun A w1 hA hL hS he=>goOn_plain rfl (stepG_pk rfl (he.1 rfl) rfl rfl)
       ·intro W2 hL2
        simp only [TailL,FactL.eq,FactL.ret,List.length_cons,List.length_nil,List.drop_succ_cons,List.drop_zero]
        go_frame
        go_wp2
        go_meet
        case rel=>exact ⟨by rw [hg],hL2.below⟩
     case rest =>
      obtain ⟨rfl,hbc⟩:=hcut
      replace hbr:=hbr.trans (hbc.mono hbr.size)
      have hown:=hown.out.on hbc
      clear hbc
      have hbase : ∀ k,u5.ownBlock=some k → w.heap.size ≤ k:=fun k hk=>(hown.base_le k hk).1
      cases g2
      ·obtain ⟨s,P2,hP,hst,hmg⟩:=mg2_false hg1.out.symm hg2.out.symm
       obtain ⟨hp1,hpi,hil⟩:=drop_cons' hP
       obtain ⟨ba,oa,ra,rfl,hra,hCa⟩:=cell_term hp.out hpi
       have hla:=hra.len
       have hks : Rs s.2:=rp.out s (List.mem_of_getElem? hpi)
       have hkt : Rs t.2:=rq.out t (List.mem_of_getElem? hqj)
       rw [hmg] at hR
       have hil' : (i : Int) < (p.length : Int):=by omega
       clear hmg hg1 hg2
       replace hp1:=Lib.hid hp1
       replace hP:=Lib.hid hP
       replace hst:=Lib.hid hst
       go_upto_region 9 with (fail)
       refine wp_region_L mixed (none) (0) (Okr.none) [.eq (.slice (some ⟨ba,oa,none⟩) p.length cp),.eq (.int .i64 i),.eq (.pointer (some ⟨ba,oa + i * 8,none⟩)),.eq (.pointer (some ⟨ba,oa + i * 8 + 4,none⟩)),.eq (.agg (ra).toArray),.eq (.slice (some ⟨bq,oq,none⟩) q.length cq),.eq (.int .i64 j),.eq (.pointer (some ⟨bq,oq + j * 8,none⟩)),.eq (.pointer (some ⟨bq,oq + j * 8 + 4,none⟩)),.eq (.agg (rb).toArray),.rat (by decide) ((s.2 + t.2)),.box 41 wc.heap.size [.bool false,.slice none 0 0,.bool false,.slice none 0 0]] [78,79,80,81,82,83,84,85,86,87,88,8] rfl rfl rfl rfl ⟨?_,?_,?_,?_,?_,?_,?_,?_,?_,?_,?_,?_,trivial⟩ ?_
       ·exact fun A w1 hA hL hS he=>goOn_plain rfl (stepG_mv rfl rfl (hA 0 rfl))
       ·exact fun A w1 hA hL hS he=>goOn_plain rfl (stepG_mv rfl rfl (hA 6 rfl))
       ·intro A w1 hA hL hS he
        have h78 : A.eval (.tmp 78)=_:=he.1 rfl
        have h79 : A.eval (.tmp 79)=_:=he.2.1 rfl
        refine goOn_plain rfl ?_
        exact stepG_pure rfl rfl (execOp_index rfl (by rw [h78,h79]; exact run_index Tryz.underlying27 (by kernel_rfl) w1 ba oa _ _ i .i64 _ (by first | rfl | simp | omega) (hil)))
       ·intro A w1 hA hL hS he
        have h80 : A.eval (.tmp 80)=_:=he.1 rfl
        refine goOn_plain rfl ?_
        exact stepG_pure rfl rfl (execOp_field rfl (by rw [h80]; exact run_field37_1 _ _ _))
       ·intro A w1 hA hL hS he
        have hb:=hL.below
        have hbw : Below w.heap.size w w1:=hbr.trans (hb.mono hbr.size)
        have h81 : A.eval (.tmp 81)=_:=he.1 rfl
        refine goOn_plain rfl ?_
        exact stepG_pure rfl rfl (execOp_load rfl (by rw [h81]; exact run_loadAt_mid w1 _ _ _ _ _ (cells_rat (hCa.on hbw)) Tryz.underlying41 rfl (by rw [hla]; kernel_rfl)))
       ·exact fun A w1 hA hL hS he=>goOn_plain rfl (stepG_mv rfl rfl (hA 1 rfl))
       ·exact fun A w1 hA hL hS he=>goOn_plain rfl (stepG_mv rfl rfl (hA 7 rfl))
       ·intro A w1 hA hL hS he
        have h83 : A.eval (.tmp 83)=_:=he.1 rfl
        have h84 : A.eval (.tmp 84)=_:=he.2.1 rfl
        refine goOn_plain rfl ?_
        exact stepG_pure rfl rfl (execOp_index rfl (by rw [h83,h84]; exact run_index Tryz.underlying27 (by kernel_rfl) w1 bq oq _ _ j .i64 _ (by first | rfl | simp | omega) (hjl)))
       ·intro A w1 hA hL hS he
        have h85 : A.eval (.tmp 85)=_:=he.1 rfl
        refine goOn_plain rfl ?_
        exact stepG_pure rfl rfl (execOp_field rfl (by rw [h85]; exact run_field37_1 _ _ _))
       ·intro A w1 hA hL hS he
        have hb:=hL.below
        have hbw : Below w.heap.size w w1:=hbr.trans (hb.mono hbr.size)
        have h86 : A.eval (.tmp 86)=_:=he.1 rfl
        refine goOn_plain rfl ?_
        exact stepG_pure rfl rfl (execOp_load rfl (by rw [h86]; exact run_loadAt_mid w1 _ _ _ _ _ (cells_rat (hCb.on hbw)) Tryz.underlying41 rfl (by rw [hlb]; kernel_rfl)))
       ·intro A w1 hA hL hS he
        have hb:=hS rfl
        have hbw : Below w.heap.size w w1:=hbr.trans (hb.mono hbr.size)
        have h82 : A.eval (.tmp 82)=_:=he.1 rfl
        have h87 : A.eval (.tmp 87)=_:=he.2.1 rfl
        have hf0 : A.eval (.func 81)=.func (.func 81) #[] #[]:=rfl
        refine goOn_plain rfl ?_
        refine stepG_call (f:=81) (args:=#[.agg (ra).toArray,.agg (rb).toArray]) rfl rfl ?_ ?_
        ·generalize A.eval=ev at *
         go_simp
        ·refine (add2_any _ _ _ _ _ (hra.on hbw).rat (hrb.on hbw).rat hks hkt).mono ?_
         rintro e w' ⟨v,rfl,hi,hb'⟩
         exact ⟨_,rfl,hb',hi⟩
       ·intro A w1 hA hL hS he
        refine goOn_plain rfl ?_
        refine stepG_box rfl rfl ((Okr.none).lr hL) hL.1.size (by generalize A.eval=ev at *; go_simp) (fun _ _ h=>h)
       ·intro W2 hL2
        have hbW2:=hbr.trans (hL2.below.mono hbr.size)
        simp only [TailL,FactL.eq,FactL.rat,FactL.box,FactL.of,List.length_cons,List.length_nil,List.drop_succ_cons,List.drop_zero]
        rintro v88 h88 v8 ⟨x,-,hBx,rfl,B8⟩
        obtain ⟨n5,a5,k5,c5,n6,a6,k6,c6,rfl⟩:=rat_agg h88
        go_frame
        have hown2:=hown.on hL2.below
        have hxw : w.heap.size ≤ x:=by have:=hbr.size; omega
        clear hL2
        go_upto_region 10 with (refine wpList_store_blk rfl _ (.tmp 8) (.tmp 88) rfl _ _ _ _ rfl rfl B8 rfl sizeRat isRat_ones ?_; intro W3 R3 gr3)
        have hl3 : Lr (some x) 41 W2 W3:=⟨gr3,fun k hk=>by cases hk; exact ⟨B8.noOther,R3.noOther⟩⟩
        have hxo : u5.ownBlock ≠ some x:=by
         intro h
         have h1:=(hown2.okr x h).2
         exact absurd (h1 _ _ _ B8) (by decide)
        have hown3:=hown2.lr hl3 (elTerm_ok (by decide)) (.inr hxo)
        have h88':=h88.lr hl3 (by decide)
        have hbW3:=hbW2.trans (hl3.belowAt hbW2.size (fun k hk=>by cases hk; exact hxw))
        have hsgn:=fun W hb=>sign2_any _ _ W (h88'.on (w':=W) hb)
        have y1:=R3.at1 0 _ rfl
        have y2:=R3.at1 1 _ rfl
        have y3:=R3.at1 2 _ rfl
        have y4:=R3.at1 3 _ rfl
        clear hl3 gr3 B8 hown2 hbW2
        by_cases hz : s.2 + t.2=0
        ·have hs0 : sgnZ (s.2 + t.2).num=0:=by rw [hz]; rfl
         rw [if_pos hz] at hR
         rw [hs0] at hsgn
         go_wp2_with (go_at_call 67; refine (hsgn _ (Below.refl _ _)).mono ?_; rintro en W4 ⟨rfl,hb4⟩)
         have hown4:=hown3.on hb4
         have hbW4:=hbW3.trans (hb4.mono hbW3.size)
         go_roundw
         case measure=>simp [intOf]; omega
         case rel=>exact ⟨i + 1,j + 1,M,by go_num,by go_num,by omega,by omega,Lib.hid hown4,Lib.hid (by rw [hR.out,hp1.out,hq1.out]),by omega,hbW4⟩
        ·have hs0:=sgnZ_ne hz
         rw [if_neg hz] at hR
         generalize sgnZ (s.2 + t.2).num=sg at hs0 hsgn
         have hs1 : (sg != 0)=true:=by simpa using hs0
         go_upto_region 11 with (go_at_call 67; refine (hsgn _ (Below.refl _ _)).mono ?_; rintro en W4 ⟨rfl,hb4⟩)
         have hown4:=hown3.on hb4
         have hbW4:=hbW3.trans (hb4.mono hbW3.size)
         have R4:=R3.on hb4
         have h884:=h88'.on hb4
         have hxo4 : some x ≠ u5.ownBlock:=fun h=>hxo h.symm
         obtain ⟨rc,hrcE⟩ : ∃ rc,rc=[Value.bool n5,.slice a5 k5 c5,.bool n6,.slice a6 k6 c6]:=⟨_,rfl⟩
         have hrc : rc.length=4:=by rw [hrcE]; rfl
         rw [show (Value.agg #[.bool n5,.slice a5 k5 c5,.bool n6,.slice a6 k6 c6])=.agg rc.toArray by rw [hrcE]] at h884
         rw [← hrcE] at R4
         clear hbW3 hown3 R3 h88 h88' hsgn y1 y2 y3 y4
         refine wp_region_L mixed (u5.ownBlock) (monoT) (hown4.okr) [.eq (u5),.eq (.slice (some ⟨ba,oa,none⟩) p.length cp),.eq (.int .i64 i),.eq (.pointer (some ⟨ba,oa + i * 8,none⟩)),.eq (.pointer (some ⟨ba,oa + i * 8,none⟩)),.eq (.agg (exC s.1).toArray),.eq (.agg (rc).toArray),.eq (.agg (exC s.1 ++ rc).toArray),.new1 elTerm elTerm_okT ((s.1,s.2 + t.2)),.row elTerm (w.heap.size) W4.heap.size (M ++ [(s.1,s.2 + t.2)])] [92,93,94,95,96,97,98,99,100,101] rfl rfl rfl rfl ⟨?_,?_,?_,?_,?_,?_,?_,?_,?_,?_,trivial⟩ ?_
         ·exact fun A w1 hA hL hS he=>goOn_plain rfl (stepG_mv rfl rfl (hA 5 rfl))
         ·exact fun A w1 hA hL hS he=>goOn_plain rfl (stepG_mv rfl rfl (hA 0 rfl))
         ·exact fun A w1 hA hL hS he=>goOn_plain rfl (stepG_mv rfl rfl (hA 6 rfl))
         ·intro A w1 hA hL hS he
          have h93 : A.eval (.tmp 93)=_:=he.1 rfl
          have h94 : A.eval (.tmp 94)=_:=he.2.1 rfl
          refine goOn_plain rfl ?_
          exact stepG_pure rfl rfl (execOp_index rfl (by rw [h93,h94]; exact run_index Tryz.underlying27 (by kernel_rfl) w1 ba oa _ _ i .i64 _ (by first | rfl | simp | omega) (hil)))
         ·intro A w1 hA hL hS he
          have h95 : A.eval (.tmp 95)=_:=he.1 rfl
          refine goOn_plain rfl ?_
          exact stepG_pure rfl rfl (execOp_field rfl (by rw [h95]; exact run_field37_0 _ _ _))
         ·intro A w1 hA hL hS he
          have hbw : Below w.heap.size w w1:=hbW4.trans (hL.belowAt hbW4.size hbase)
          have h96 : A.eval (.tmp 96)=_:=he.1 rfl
          refine goOn_plain rfl ?_
          exact stepG_pure rfl rfl (execOp_load rfl (by rw [h96]; exact run_loadAt_mid w1 _ _ _ _ _ (cells_ex (hCa.on hbw)) Tryz.underlying36 rfl (by rw [show (exC s.1).length=4 from rfl]; kernel_rfl)))
         ·intro A w1 hA hL hS he
          have h8 : A.eval (.tmp 8)=.pointer (some ⟨x,0,none⟩):=hA 8 rfl
          refine goOn_plain rfl ?_
          exact stepG_pure rfl rfl (execOp_load rfl (by rw [h8]; exact run_loadAt_mid w1 _ _ _ _ _ ((R4.lr hL hxo4).range 0 rc (fun j v h=>by rw [Nat.zero_add]; exact h)) Tryz.underlying41 rfl (by rw [hrc]; kernel_rfl)))
         ·intro A w1 hA hL hS he
          have h97 : A.eval (.tmp 97)=_:=he.1 rfl
          have h98 : A.eval (.tmp 98)=_:=he.2.1 rfl
          refine goOn_plain rfl ?_
          exact stepG_pure rfl rfl (execOp_build rfl (by simp only [List.map_toArray,List.map_cons,List.map_nil,h97,h98]; exact run_build37 _ _ _ (hrc)))
         ·intro A w1 hA hL hS he
          have hb:=hS rfl
          have h99 : A.eval (.tmp 99)=_:=he.1 rfl
          refine goOn_plain rfl ?_
          have hE : (elTerm : El _).E w1 _ ((s.1,s.2 + t.2)):=⟨_,rfl,(h884.on hb).cellsC⟩
          refine stepG_new1 rfl rfl ((hown4.okr).lr hL) hE (execOp_buildSlice rfl ?_) (fun _ _ h=>h)
          simp only [List.map_toArray,List.map_cons,List.map_nil,h99]
          exact run_new1_elTermP _ _ ((elTerm).len hE)
         ·intro A w1 hA hL hS he
          have hb:=hS rfl
          have hbw : Below w.heap.size w w1:=hbW4.trans (hL.belowAt hbW4.size hbase)
          have h92 : A.eval (.tmp 92)=_:=he.1 rfl
          have f100 : ((.new1 elTerm elTerm_okT ((s.1,s.2 + t.2)) : FactL (Lr (u5.ownBlock) (monoT)))).p (A.eval (.tmp 100)) w1:=he.2.1 rfl
          obtain ⟨v100,h100⟩ : ∃ v,A.eval (.tmp 100)=v:=⟨_,rfl⟩
          rw [h100] at f100
          refine goOn_plain rfl ?_
          exact stepG_append rfl rfl rfl Tryz.underlying27 info_elTerm h92 h100 (hown4.on hb) rfl rfl (isSl_of_new f100) (by simp; omega) (hbw.size) hL.1.size (fun _ _ h1 h2=>⟨h1,h2⟩)
         ·intro W5 hL5
          simp only [TailL,FactL.eq,FactL.new1,FactL.row,FactL.asPure,FactL.of,FactL.fragile,List.length_cons,List.length_nil,List.drop_succ_cons,List.drop_zero]
          rintro v100 - v101 ⟨hown5,hnew⟩
          go_frame
          have hbW5:=hbW4.trans (hL5.belowAt hbW4.size hbase)
          go_wp2
          go_roundw
          case measure=>simp [intOf]; omega
          case rel=>exact ⟨i + 1,j + 1,M ++ [(s.1,s.2 + t.2)],by go_num,by go_num,by omega,by omega,Lib.hid hown5,Lib.hid (by rw [hR.out,hp1.out,hq1.out]; simp),by simp; omega,hbW5⟩
      ·have hmg:=mg2_true hg2.out.symm
       rw [hmg] at hR
       clear hmg hg1 hg2
       have h8 : (exC t.1 ++ rb).length=8:=by rw [List.length_append,hlb]; rfl
       go_upto_region 7 with (fail)
       refine wp_region_S trivial (u5.ownBlock) (monoT) (hown.okr) [.eq (u5),.eq (.slice (some ⟨bq,oq,none⟩) q.length cq),.eq (.int .i64 j),.eq (.pointer (some ⟨bq,oq + j * 8,none⟩)),.eq (.agg (exC t.1 ++ rb).toArray),.new1 elTerm elTerm_okT (t),.row elTerm (w.heap.size) wc.heap.size (M ++ [t])] [69,70,71,72,73,74,75] rfl rfl rfl rfl ⟨?_,?_,?_,?_,?_,?_,?_,trivial⟩ ?_
       ·exact fun A w1 hA hL hS he=>goOn_plain rfl (stepG_mv rfl rfl (hA 5 rfl))
       ·exact fun A w1 hA hL hS he=>goOn_plain rfl (stepG_mv rfl rfl (hA 1 rfl))
       ·exact fun A w1 hA hL hS he=>goOn_plain rfl (stepG_mv rfl rfl (hA 7 rfl))
       ·intro A w1 hA hL hS he
        have h70 : A.eval (.tmp 70)=_:=he.1 rfl
        have h71 : A.eval (.tmp 71)=_:=he.2.1 rfl
        refine goOn_plain rfl ?_
        exact stepG_pure rfl rfl (execOp_index rfl (by rw [h70,h71]; exact run_index Tryz.underlying27 (by kernel_rfl) w1 bq oq _ _ j .i64 _ (by first | rfl | simp | omega) (hjl)))
       ·intro A w1 hA hL hS he
        have hbw : Below w.heap.size w w1:=hbr.trans (hL.belowAt hbr.size hbase)
        have h72 : A.eval (.tmp 72)=_:=he.1 rfl
        refine goOn_plain rfl ?_
        exact stepG_pure rfl rfl (execOp_load rfl (by rw [h72]; exact run_loadAt_mid w1 _ _ _ _ _ ((hCb.on hbw).range) Tryz.underlying43 rfl (by rw [h8]; kernel_rfl)))
       ·intro A w1 hA hL hS he
        have hbw : Below w.heap.size w w1:=hbr.trans (hL.belowAt hbr.size hbase)
        have h73 : A.eval (.tmp 73)=_:=he.1 rfl
        refine goOn_plain rfl ?_
        have hE : (elTerm : El _).E w1 _ (t):=⟨_,rfl,hrb.on hbw⟩
        refine stepG_new1 rfl rfl ((hown.okr).lr hL) hE (execOp_buildSlice rfl ?_) (fun _ _ h=>h)
        simp only [List.map_toArray,List.map_cons,List.map_nil,h73]
        exact run_new1_elTermP _ _ ((elTerm).len hE)
       ·intro A w1 hA hL hS he
        have hb:=hS rfl
        have hbw : Below w.heap.size w w1:=hbr.trans (hL.belowAt hbr.size hbase)
        have h69 : A.eval (.tmp 69)=_:=he.1 rfl
        have f74 : ((.new1 elTerm elTerm_okT (t) : FactL (Lr (u5.ownBlock) (monoT)))).p (A.eval (.tmp 74)) w1:=he.2.1 rfl
        obtain ⟨v74,h74⟩ : ∃ v,A.eval (.tmp 74)=v:=⟨_,rfl⟩
        rw [h74] at f74
        refine goOn_plain rfl ?_
        exact stepG_append rfl rfl rfl Tryz.underlying27 info_elTerm h69 h74 (hown.on hb) rfl rfl (isSl_of_new f74) (by simp; omega) (hbw.size) hL.1.size (fun _ _ h1 h2=>⟨h1,h2⟩)
       ·intro W5 hL5
        simp only [TailL,FactL.eq,FactL.new1,FactL.row,FactL.asPure,FactL.of,FactL.fragile,List.length_cons,List.length_nil,List.drop_succ_cons,List.drop_zero]
        rintro v74 - v75 ⟨hown5,hnew⟩
        go_frame
        have hbW5:=hbr.trans (hL5.belowAt hbr.size hbase)
        go_wp2
        go_roundw
        case measure=>simp [intOf]; omega
        case rel=>exact ⟨i,j + 1,M ++ [t],rfl,by go_num,by omega,by omega,Lib.hid hown5,Lib.hid (by rw [hR.out,hq1.out]; simp),by simp; omega,hbW5⟩
    ·obtain ⟨s,P2,hP,hmg⟩:=mg1_true hg1.out.symm hnd.out
     obtain ⟨hp1,hpi,hil⟩:=drop_cons' hP
     obtain ⟨ba,oa,ra,rfl,hra,hCa⟩:=cell_term hp.out hpi
     have hla:=hra.len
     rw [hmg] at hR
     have hil' : (i : Int) < (p.length : Int):=by omega
     clear hmg hg1 hnd hP
     replace hp1:=Lib.hid hp1
     have h8 : (exC s.1 ++ ra).length=8:=by rw [List.length_append,hla]; rfl
     replace hown:=hown.out
     have hbase : ∀ k,u5.ownBlock=some k → w.heap.size ≤ k:=fun k hk=>(hown.base_le k hk).1
     go_upto_region 4 with (fail)
     refine wp_region_S trivial (u5.ownBlock) (monoT) (hown.okr) [.eq (u5),.eq (.slice (some ⟨ba,oa,none⟩) p.length cp),.eq (.int .i64 i),.eq (.pointer (some ⟨ba,oa + i * 8,none⟩)),.eq (.agg (exC s.1 ++ ra).toArray),.new1 elTerm elTerm_okT (s),.row elTerm (w.heap.size) wc.heap.size (M ++ [s])] [43,44,45,46,47,48,49] rfl rfl rfl rfl ⟨?_,?_,?_,?_,?_,?_,?_,trivial⟩ ?_
     ·exact fun A w1 hA hL hS he=>goOn_plain rfl (stepG_mv rfl rfl (hA 5 rfl))
     ·exact fun A w1 hA hL hS he=>goOn_plain rfl (stepG_mv rfl rfl (hA 0 rfl))
     ·exact fun A w1 hA hL hS he=>goOn_plain rfl (stepG_mv rfl rfl (hA 6 rfl))
     ·intro A w1 hA hL hS he
      have h44 : A.eval (.tmp 44)=_:=he.1 rfl
      have h45 : A.eval (.tmp 45)=_:=he.2.1 rfl
      refine goOn_plain rfl ?_
      exact stepG_pure rfl rfl (execOp_index rfl (by rw [h44,h45]; exact run_index Tryz.underlying27 (by kernel_rfl) w1 ba oa _ _ i .i64 _ (by first | rfl | simp | omega) (hil)))
     ·intro A w1 hA hL hS he
      have hbw : Below w.heap.size w w1:=hbr.trans (hL.belowAt hbr.size hbase)
      have h46 : A.eval (.tmp 46)=_:=he.1 rfl
      refine goOn_plain rfl ?_
      exact stepG_pure rfl rfl (execOp_load rfl (by rw [h46]; exact run_loadAt_mid w1 _ _ _ _ _ ((hCa.on hbw).range) Tryz.underlying43 rfl (by rw [h8]; kernel_rfl)))
     ·intro A w1 hA hL hS he
      have hbw : Below w.heap.size w w1:=hbr.trans (hL.belowAt hbr.size hbase)
      have h47 : A.eval (.tmp 47)=_:=he.1 rfl
      refine goOn_plain rfl ?_
      have hE : (elTerm : El _).E w1 _ (s):=⟨_,rfl,hra.on hbw⟩
      refine stepG_new1 rfl rfl ((hown.okr).lr hL) hE (execOp_buildSlice rfl ?_) (fun _ _ h=>h)
      simp only [List.map_toArray,List.map_cons,List.map_nil,h47]
      exact run_new1_elTermP _ _ ((elTerm).len hE)
     ·intro A w1 hA hL hS he
      have hb:=hS rfl
      have hbw : Below w.heap.size w w1:=hbr.trans (hL.belowAt hbr.size hbase)
      have h43 : A.eval (.tmp 43)=_:=he.1 rfl
      have f48 : ((.new1 elTerm elTerm_okT (s) : FactL (Lr (u5.ownBlock) (monoT)))).p (A.eval (.tmp 48)) w1:=he.2.1 rfl
      obtain ⟨v48,h48⟩ : ∃ v,A.eval (.tmp 48)=v:=⟨_,rfl⟩
      rw [h48] at f48
      refine goOn_plain rfl ?_
      exact stepG_append rfl rfl rfl Tryz.underlying27 info_elTerm h43 h48 (hown.on hb) rfl rfl (isSl_of_new f48) (by simp; omega) (hbw.size) hL.1.size (fun _ _ h1 h2=>⟨h1,h2⟩)
     ·intro W5 hL5
      simp only [TailL,FactL.eq,FactL.new1,FactL.row,FactL.asPure,FactL.of,FactL.fragile,List.length_cons,List.length_nil,List.drop_succ_cons,List.drop_zero]
      rintro v48 - v49 ⟨hown5,hnew⟩
      go_frame
      have hbW5:=hbr.trans (hL5.belowAt hbr.size hbase)
      go_wp2
      go_roundw
      case measure=>simp [intOf]; omega
      case rel=>exact ⟨i + 1,j,M ++ [s],by go_num,rfl,by omega,by omega,Lib.hid hown5,Lib.hid (by rw [hR.out,hp1.out]; simp),by simp; omega,hbW5⟩
  ·have hi' : i=p.length:=by omega
   have hj' : j=q.length:=by omega
   rw [hi',hj',List.drop_length,List.drop_length,mergeP_nil,List.append_nil] at hR
   have g1 : ¬ (i : Int) < (p.length : Int):=by omega
   have g2 : ¬ (j : Int) < (q.length : Int):=by omega
   clear hi' hj'
   go_wp2
   go_ret
   exact ⟨_,rfl,by rw [hR.out]; exact hown.out,hbr⟩
theorem add7_any (vp vq : Value) (p q : List Trm) (w : World) (hp : IsPoly w vp p) (hq : IsPoly w vq q) (rp : ∀ t ∈ p,Rs t.2) (rq : ∀ t ∈ q,Rs t.2) (lp : p.length ≤ 1000000) (lq : q.length ≤ 1000000) :
  Calls Tryz.prog 39 #[vp,vq] w (RetPoly w (mergeP p q)):=(add7_own vp vq p q w hp hq rp rq lp lq).mono fun _ _ h=>h.poly
end Go.Proofs.YtopclbeomcggiaaGreat
end
section
namespace Go.Proofs.YtopclbeomcggiaaGreat
open Go.RowKit Q Go.WideMaps Go.Maps
set_option maxHeartbeats 2000000 in
set_option maxRecDepth 100000 in
theorem deg7_any (vp : Value) (p : List Trm) (v : Nat) (w : World) (h : IsPoly w vp p) (hv : v < 4) (hlen : p.length ≤ 1000000) : Calls Tryz.prog 27 #[vp,.int .i64 v] w (Ret w (.int .i64 (degP p v))):=by
 obtain ⟨ao,cap,rfl,hcap⟩:=h.shape
 obtain ⟨R,HR⟩ : ∃ R,R=degP p v:=⟨_,rfl⟩
 rw [← HR]
 replace HR:=Lib.hid HR
 replace h:=Lib.hid h
 have hv4 : (v : Int) < 4:=by omega
 go_enter Tryz.func27,Tryz.ntmps27
 go_wp2
 go_loopw [5,6] (fun d i wr=>∃ k : Nat,k ≤ p.length ∧ i=.int .i64 k ∧ d=.int .i64 (degP (p.take k) v) ∧ Below w.heap.size w wr) (fun _ i _=>p.length - (intOf i).toNat)
 case atStart=>exact ⟨0,by omega,rfl,rfl,Below.refl _ _⟩
 case round =>
  obtain ⟨k,hk,rfl,rfl,hb⟩:=hrel
  by_cases hkl : k < p.length
  ·have hj : p[k]?=some p[k]:=List.getElem?_eq_getElem hkl
   have hstep : degP (p.take (k + 1)) v=max (degP (p.take k) v) (p[k].1.get v):=by
    unfold degP; rw [List.take_succ_eq_append_getElem hkl,List.foldl_append]; rfl
   generalize p[k]=t at hj hstep
   obtain ⟨b',off,r,rfl,-,hC⟩:=cell_term (h.out.on hb) hj
   have hkl' : (k : Int) < p.length:=by omega
   have z : wr.cell? ⟨b',off + k * 8 + v,none⟩=some (.int .i64 (t.1.get v)):=by
    rw [hC.cell v (by simp [exC]; omega)]; exact exC_at t.1 v hv r
   generalize t.1.get v=x at *
   generalize degP (p.take k) v=d at *
   replace hstep:=Lib.hid hstep
   clear hC
   go_wp2_with (refine wpList_index_at rfl _ _ 27 rfl monoT Tryz.underlying27 _ 8 96 (by kernel_rfl) _ _ _ rfl .i64 _ rfl k rfl hkl b' off rfl ?_)
   go_roundw
   case measure=>simp [intOf]; omega
   case rel=>exact ⟨k + 1,by omega,by go_num,by rw [hstep.out],hb⟩
  ·obtain rfl : k=p.length:=by omega
   rw [List.take_of_length_le (Nat.le_refl _),← HR.out]
   go_wp2
   go_ret
   exact ⟨rfl,hb⟩
theorem term_ones7 {w : World} {r : List Value} {q : Rat} {e : Ex} (h : IsRatC w r q) : (exC e ++ r).toArray.all (·.oneCell')=true:=by
 rw [Array.all_eq_true_iff_forall_mem]
 intro v hv
 rcases List.mem_append.1 (by simpa using hv) with hv | hv
 ·exact exC_one e v hv
 ·exact h.one v hv
set_option maxHeartbeats 4000000 in
set_option maxRecDepth 100000 in
theorem coeff7_any (vp : Value) (p : List Trm) (v : Nat) (n : Int) (w : World) (hp : IsPoly w vp p) (hv : v < 4) (lp : p.length ≤ 1000000) : Calls Tryz.prog 80 #[vp,.int .i64 v,.int .i64 n] w (RetPoly w (coeffP p v n)):=by
 obtain ⟨ap,cp,rfl,hcp⟩:=hp.shape
 have hv4 : (v : Int) < 4:=by omega
 obtain ⟨R,hR⟩ : ∃ R,R=coeffP p v n:=⟨_,rfl⟩
 rw [← hR]
 replace hR:=Lib.hid hR
 go_enter Tryz.func80,Tryz.ntmps80
 go_wp2
 have hown0:=own_lit0 elTerm w
 have hb0 : Below w.heap.size w (w.alloc (.cells #[] monoT)):=(Below.refl _ _).alloc (Nat.le_refl _) _
 change OwnPoly w.heap.size (w.alloc (.cells #[] 43)) _ _ at hown0
 change Below w.heap.size w (w.alloc (.cells #[] 43)) at hb0
 replace hp:=Lib.hid hp
 go_loopw [7,8] (fun o i wr=>∃ k : Nat,k ≤ p.length ∧ i=.int .i64 k ∧ Hid (OwnPoly w.heap.size wr o (coeffP (p.take k) v n)) ∧ (coeffP (p.take k) v n).length ≤ k ∧ Below w.heap.size w wr) (fun _ i _=>p.length - (intOf i).toNat)
 case atStart=>exact ⟨0,by omega,rfl,Lib.hid hown0,by simp [coeffP],hb0⟩
 case round =>
  clear hown0 hb0
  obtain ⟨k,hk,rfl,hown,hln,hbr⟩:=hrel
  by_cases hkl : k < p.length
  ·have hjq : p[k]?=some p[k]:=List.getElem?_eq_getElem hkl
   generalize p[k]=t at hjq
   have hsn:=coeffP_step p hjq v n
   obtain ⟨bp,op,rc,rfl,hrc,hC⟩:=cell_term (hp.out.on hbr) hjq
   have hlc:=hrc.len
   have h8 : (exC t.1 ++ rc).length=8:=by rw [List.length_append,hlc]; rfl
   have hr:=hC.range
   have hkl' : (k : Int) < p.length:=by omega
   clear hC
   go_upto_region 6 with (first
    | (refine wpList_index_at rfl _ _ 27 rfl monoT Tryz.underlying27 _ 8 96 (by kernel_rfl) _ _ _ rfl .i64 _ rfl k rfl hkl bp op rfl ?_)
    | (refine wpList_load_mid rfl 43 _ rfl _ _ rfl _ _ hr Tryz.underlying43 rfl (by rw [h8]; kernel_rfl) ?_)
    | (refine wpList_store_blk rfl _ (.tmp 9) (.tmp 20) rfl _ _ _ _ rfl rfl (Blk.new wr monoT [.int .i64 0,.int .i64 0,.int .i64 0,.int .i64 0,.bool false,.slice none 0 0,.bool false,.slice none 0 0]) (by simp [exC,hlc]) (by simp only [List.size_toArray,h8]; exact info37) (term_ones7 hrc) ?_; intro W3 R3 gr3))
   have BB : Blk W3 wr.heap.size monoT (exC t.1 ++ rc):=by simpa using R3
   have hba : Below wr.heap.size wr (wr.alloc (.cells #[.int .i64 0,.int .i64 0,.int .i64 0,.int .i64 0,.bool false,.slice none 0 0,.bool false,.slice none 0 0] monoT)):=(Below.refl _ _).alloc (Nat.le_refl _) _
   have hb3 : Below wr.heap.size wr W3:=hba.trans (grown_below gr3 (by simp) (Nat.le_refl _))
   have hbr3:=hbr.trans (hb3.mono hbr.size)
   have hown3:=hown.out.on hb3
   have hrc3:=hrc.on hb3
   have hwm : w.heap.size ≤ wr.heap.size:=hbr.size
   have hom : u7.ownBlock ≠ some wr.heap.size:=fun h=>by have:=(hown.out.base_le _ h).2; omega
   have hbase : ∀ k,u7.ownBlock=some k → w.heap.size ≤ k:=fun k hk=>(hown.out.base_le k hk).1
   clear hr R3 gr3 hba hb3 hrc hown hbr
   generalize wr.heap.size=mb at *
   have hat:=exC_at t.1 v hv rc
   have z:=BB.at1 v _ hat
   have hset:=exC_set t.1 v hv 0 rc
   by_cases hx : t.1.get v=n
   ·have e1 : (t.1.get v == n)=true:=by simpa using hx
    rw [if_pos hx] at hsn
    have hf:=BB.frozen v
    go_upto_region 8 with (fail)
    have hl4:=setCell_lr (j:=v) BB (.int .i64 0)
    have B4:=BB.set v (.int .i64 0)
    rw [hset] at B4
    have hown4:=hown3.lr hl4 (elTerm_ok (by decide)) (.inr hom)
    have hrc4:=hrc3.lr hl4 (by decide)
    have hbr4:=hbr3.trans (hl4.belowAt hbr3.size (fun k hk=>by cases hk; exact hwm))
    generalize W3.setCell ⟨mb,v,none⟩ (.int .i64 0)=W4 at *
    have hne : some mb ≠ u7.ownBlock:=fun h=>hom h.symm
    obtain ⟨E,hE⟩ : ∃ E,E=t.1.put v 0:=⟨_,rfl⟩
    rw [← hE] at B4 hsn
    have h8' : (exC E ++ rc).length=8:=by rw [List.length_append,hlc]; rfl
    replace hsn:=Lib.hid hsn
    clear hl4 z hf BB hown3 hrc3 hbr3 hat hset hE e1 hx
    refine wp_region_S trivial (u7.ownBlock) (monoT) (hown4.okr) [.eq (u7),.eq (.agg (exC E ++ rc).toArray),.new1 elTerm elTerm_okT ((E,t.2)),.row elTerm (w.heap.size) W4.heap.size (coeffP (p.take k) v n ++ [(E,t.2)])] [30,31,32,33] rfl rfl rfl rfl ⟨?_,?_,?_,?_,trivial⟩ ?_
    ·exact fun A w1 hA hL hS he=>goOn_plain rfl (stepG_mv rfl rfl (hA 7 rfl))
    ·intro A w1 hA hL hS he
     have h9 : A.eval (.tmp 9)=.pointer (some ⟨mb,0,none⟩):=hA 9 rfl
     refine goOn_plain rfl ?_
     exact stepG_pure rfl rfl (execOp_load rfl (by rw [h9]; exact run_loadAt_mid w1 _ _ _ _ _ ((B4.lr hL hne).cells.range) Tryz.underlying43 rfl (by rw [h8']; kernel_rfl)))
    ·intro A w1 hA hL hS he
     have h31 : A.eval (.tmp 31)=_:=he.1 rfl
     refine goOn_plain rfl ?_
     have hE : (elTerm : El _).E w1 _ ((E,t.2)):=⟨_,rfl,hrc4.lr hL (by decide)⟩
     refine stepG_new1 rfl rfl ((hown4.okr).lr hL) hE (execOp_buildSlice rfl ?_) (fun _ _ h=>h)
     simp only [List.map_toArray,List.map_cons,List.map_nil,h31]
     exact run_new1_elTermP _ _ ((elTerm).len hE)
    ·intro A w1 hA hL hS he
     have hb:=hS rfl
     have hbw : Below w.heap.size w w1:=hbr4.trans (hL.belowAt hbr4.size hbase)
     have h30 : A.eval (.tmp 30)=_:=he.1 rfl
     have f32 : ((.new1 elTerm elTerm_okT ((E,t.2)) : FactL (Lr (u7.ownBlock) (monoT)))).p (A.eval (.tmp 32)) w1:=he.2.1 rfl
     obtain ⟨v32,h32⟩ : ∃ v,A.eval (.tmp 32)=v:=⟨_,rfl⟩
     rw [h32] at f32
     refine goOn_plain rfl ?_
     exact stepG_append rfl rfl rfl Tryz.underlying27 info_elTerm h30 h32 (hown4.on hb) rfl rfl (isSl_of_new f32) (by simp only [List.length_cons,List.length_nil]; omega) (hbw.size) hL.1.size (fun _ _ h1 h2=>⟨h1,h2⟩)
    ·intro W5 hL5
     simp only [TailL,FactL.eq,FactL.new1,FactL.row,FactL.asPure,FactL.of,FactL.fragile,List.length_cons,List.length_nil,List.drop_succ_cons,List.drop_zero]
     rintro v32 - v33 ⟨hown5,hnew⟩
     go_frame
     have hbW5:=hbr4.trans (hL5.belowAt hbr4.size hbase)
     go_wp2
     go_roundw
     case measure=>simp [intOf]; omega
     case rel=>exact ⟨k + 1,by omega,by go_num,Lib.hid (by rw [hsn.out]; exact hown5),by rw [hsn.out,List.length_append]; simp only [List.length_cons,List.length_nil]; omega,hbW5⟩
   ·have e1 : (t.1.get v == n)=false:=by simpa using hx
    rw [if_neg hx,List.append_nil] at hsn
    replace hsn:=Lib.hid hsn
    go_wp2
    go_roundw
    case measure=>simp [intOf]; omega
    case rel=>exact ⟨k + 1,by omega,by go_num,Lib.hid (by rw [hsn.out]; exact hown3),by rw [hsn.out]; omega,hbr3⟩
  ·obtain rfl : k=p.length:=by omega
   rw [List.take_of_length_le (Nat.le_refl _)] at hown
   go_wp2
   go_ret
   exact ⟨_,rfl,by rw [hR.out]; exact hown.out.isSl,hbr⟩
end Go.Proofs.YtopclbeomcggiaaGreat
end
