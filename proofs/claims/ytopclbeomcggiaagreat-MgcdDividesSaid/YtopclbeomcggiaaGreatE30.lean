/- Validity: the reference's and the program's. Validity: the program's. -/
import Derived.Test.YtopclbeomcggiaaGreatE02
import Derived.Test.YtopclbeomcggiaaGreatE04
import Derived.Test.YtopclbeomcggiaaGreatE20
import Derived.Test.YtopclbeomcggiaaGreatE26
set_option linter.unusedVariables false
set_option linter.unusedSimpArgs false
set_option maxHeartbeats 16000000
set_option maxRecDepth 100000
namespace Q
def okAt (l:List Trm) (i:Nat):Bool:=match l[i]? with
|none=>true
|some t=>t.1.nat && decide (t.2≠0) && (match i with|0=>true|j+1=>match l[j]? with|none=>true|some s=>s.1.gt t.1)
def vldB (l:List Trm):Bool:=(List.range l.length).all (okAt l)
theorem vldB_iff {l:List Trm}:vldB l=true↔∀ i,i<l.length->okAt l i=true:=by
 unfold vldB;rw [List.all_eq_true];simp only [List.mem_range]
theorem vldB_vld {l:List Trm}:vldB l=true↔Vld l:=by
 rw [vldB_iff];constructor
 ·intro h;refine⟨List.pairwise_iff_getElem.2 fun i j hi hj hij=>?_,fun t ht=>?_⟩
  ·obtain⟨d,rfl⟩:∃ d,j=i+1+d:=⟨j - (i+1),by omega⟩;clear hij
   induction d with
  |zero =>
    have:=h (i+1) (by omega);simp only [okAt,List.getElem?_eq_getElem (show i+1<l.length by omega),List.getElem?_eq_getElem hi,Bool.and_eq_true] at this;exact this.2
  |succ d ih =>
    have h1:=ih (by omega);have:=h (i+1+d+1) (by omega);simp only [okAt,List.getElem?_eq_getElem (show i+1+d+1<l.length by omega),List.getElem?_eq_getElem (show i+1+d<l.length by omega),Bool.and_eq_true] at this;exact Ex.gt_trans h1 this.2
  ·obtain⟨i,hi⟩:=List.mem_iff_getElem?.1 ht;have hil:=(List.getElem?_eq_some_iff.1 hi).1;have:=h i hil;simp only [okAt,hi,Bool.and_eq_true,decide_eq_true_eq] at this;exact⟨this.1.2,this.1.1⟩
 ·intro hv i hi;have hm:=hv.2 l[i] (List.getElem_mem hi);simp only [okAt,List.getElem?_eq_getElem hi,Bool.and_eq_true,decide_eq_true_eq];refine⟨⟨hm.2,hm.1⟩,?_⟩
  cases i with
 |zero=>rfl
 |succ j =>
   simp only [List.getElem?_eq_getElem (show j<l.length by omega)];exact List.pairwise_iff_getElem.1 hv.1 j (j+1) (by omega) hi (by omega)
end Q
namespace Go.Proofs.YtopclbeomcggiaaGreat
open Go.RowKit Q Go.WideMaps Go.Maps
theorem valid7_any (v:Value) (l:List Trm) (w:World) (h:IsPoly w v l) (hr:∀ t∈l,Rs t.2) (hl:l.length<=100000000):Calls Tryz.prog 22 #[v] w (Ret w (.bool (vldB l))):=by
 obtain⟨ap,cp,rfl,hcp⟩:=h.shape;have hall:=vldB_iff (l:=l);generalize vldB l=R at *;replace hall:=zH hall;replace hr:=zH hr
 go_enter Tryz.func22,Tryz.ntmps22
 go_wp2
 go_loopw [3] (fun i wr=>∃ k:Nat,k<=l.length/\i=.int .i64 k/\Hid (∀ j,j<k->okAt l j=true)/\Below w.heap.size w wr) (fun i _=>l.length-(intOf i).toNat)
 case atStart=>exact⟨0,by omega,rfl,zH (fun j h=>by omega),Below.refl _ _⟩
 case round =>
  obtain⟨k,hk,rfl,hpre,hbr⟩:=hrel;by_cases hkl:k<l.length
  ·have hjq:l[k]?=some l[k]:=List.getElem?_eq_getElem hkl;generalize l[k]=t at hjq;obtain⟨b1,o1,cs1,rfl,-,hE1,hC⟩:=h.get hjq;obtain⟨r1,rfl,hr1⟩:=hE1;change Cells monoT w b1 (o1+k*8) _ at hC;have hkt:=hr.out t (List.mem_of_getElem? hjq);have hkl':(k:Int)<l.length:=by omega
   have hl1:=hr1.len;have hsg:=fun W (hb:Below w.heap.size w W)=>sign2_any _ _ W (hr1.on hb).rat
   have hstop:okAt l k=false->Hid (R=false):=fun hf=>by
    cases hR:R
    ·exact zH rfl
    ·have:=(hall.out.1 hR) k hkl;rw [hf] at this;cases this
   have hstep:okAt l k=true->Hid (∀ j,j<k+1->okAt l j=true):=fun ht j hj=>by
    rcases Nat.lt_or_ge j k with h'|h'
    ·exact hpre.out j h'
    ·obtain rfl:j=k:=by omega
     exact ht
   go_upto_region 4 with (fail)
   by_cases hn:t.1.nat=true
   ·have hnt:=hn;by_cases hc:t.2=0
    ·have hst:=hstop (by simp [okAt,hjq,hc]);rw [show sgnZ t.2.num=0 by rw [hc];rfl] at hsg;clear hstep hstop hpre hjq hn;refine wp_region_L mixed (none) (0) (Okr.none) [.eq (.slice (some ⟨b1,o1,none⟩) l.length cp),.eq (.int .i64 k),.eq (.pointer (some ⟨b1,o1+k*8,none⟩)),.eq (.pointer (some ⟨b1,o1+k*8,none⟩)),.eq (.agg (exC t.1).toArray),.ret (.bool true),.eq (.bool false),.eq (.bool false),.eq (.slice (some ⟨b1,o1,none⟩) l.length cp),.eq (.int .i64 k),.eq (.pointer (some ⟨b1,o1+k*8,none⟩)),.eq (.pointer (some ⟨b1,o1+k*8+4,none⟩)),.eq (.agg (r1).toArray),.ret (.bool true),.eq (.bool false),.eq (.bool false),.eq (.bool false),.eq (.slice (some ⟨b1,o1,none⟩) l.length cp),.eq (.int .i64 k),.eq (.pointer (some ⟨b1,o1+k*8,none⟩)),.eq (.pointer (some ⟨b1,o1+k*8+4,none⟩)),.eq (.agg (r1).toArray),.ret (.int .i64 0),.eq (.bool true),.eq (.bool true),.eq (.bool true),.eq undef,.eq undef,.eq undef,.eq undef,.eq undef,.eq undef,.eq undef,.eq undef,.eq undef,.eq undef,.eq undef,.eq undef,.eq undef,.eq undef,.eq undef,.eq undef,.eq undef,.eq (.bool true)] [10,11,12,13,14,15,16,17,18,19,20,21,22,23,24,25,26,27,28,29,30,31,32,33,34,35,36,37,38,39,40,41,42,43,44,45,46,47,48,49,50,51,52,53] rfl rfl rfl rfl ⟨?_,?_,?_,?_,?_,?_,?_,?_,?_,?_,?_,?_,?_,?_,?_,?_,?_,?_,?_,?_,?_,?_,?_,?_,?_,?_,?_,?_,?_,?_,?_,?_,?_,?_,?_,?_,?_,?_,?_,?_,?_,?_,?_,?_,trivial⟩ ?_
     ·exact fun _ _ a _ _ _=>xM rfl (a 0 rfl)
     ·exact fun _ _ a _ _ _=>xM rfl (a 3 rfl)
     ·exact fun _ _ _ _ _ e=>pI rfl Tryz.underlying27 b1 o1 k (hkl) (e.1 rfl) (e.2.1 rfl)
     ·exact fun _ _ _ _ _ e=>goOn_plain rfl (xF0 rfl (e.1 rfl))
     ·exact fun _ _ _ hL _ e=>pL rfl (cells_ex (hC.on (hbr.trans (hL.below.mono hbr.size)))) Tryz.underlying36 (show (exC t.1).length=4 from rfl) (e.1 rfl)
     ·intro A w1 hA hL hS he;have hb:=hS rfl;have h14:=eT 14 (he.1 rfl);have hf0:=eF A 65;refine goOn_plain rfl ?_;refine stepG_call (f:=65) (args:=#[.agg (exC t.1).toArray]) rfl rfl ?_ ?_
      ·exact gZ
      ·refine (hnt ▸ natural7_any t.1 _).mono ?_;rintro e w' ⟨rfl,hb'⟩;exact⟨_,rfl,hb',rfl⟩
     ·intro A w1 hA hL hS he;have h15:=eT 15 (he.1 rfl);exact pZ rfl
     ·exact fun _ _ _ _ _ e=>xM rfl (e.1 rfl)
     ·exact fun _ _ a _ _ e=>yM (e.1 rfl) rfl (a 0 rfl)
     ·exact fun _ _ a _ _ e=>yM (e.1 rfl) rfl (a 3 rfl)
     ·exact fun _ _ _ _ _ e=>goOn_yes rfl rfl (e.2.2.1 rfl) (xI rfl Tryz.underlying27 b1 o1 k (hkl) (e.1 rfl) (e.2.1 rfl))
     ·exact fun _ _ _ _ _ e=>goOn_yes rfl rfl (e.2.1 rfl) (xF1 rfl (e.1 rfl))
     ·exact fun _ _ _ hL _ e=>goOn_yes rfl rfl (e.2.1 rfl) (xL rfl (cells_rat (hC.on (hbr.trans (hL.below.mono hbr.size)))) Tryz.underlying41 (hl1) (e.1 rfl))
     ·intro A w1 hA hL hS he;have hb:=hS rfl;have h17:=eT 17 (he.2.1 rfl);have h22:=eT 22 (he.1 rfl);have hf0:=eF A 66;refine goOn_yes rfl rfl h17 ?_;refine stepG_call (f:=66) (args:=#[.agg (r1).toArray]) rfl rfl ?_ ?_
      ·exact gZ
      ·refine (valid2_any _ _ _ (hr1.on (hbr.trans (hb.mono hbr.size))).rat hkt).mono ?_;rintro e w' ⟨rfl,hb'⟩;exact⟨_,rfl,hb',rfl⟩
     ·intro A w1 hA hL hS he;have h17:=eT 17 (he.2.1 rfl);have h23:=eT 23 (he.1 rfl);exact yZ h17 rfl
     ·exact fun _ _ _ _ _ e=>pK rfl (e.1 rfl) (e.2.1 rfl)
     ·exact fun _ _ _ _ _ e=>xM rfl (e.1 rfl)
     ·exact fun _ _ a _ _ e=>yM (e.1 rfl) rfl (a 0 rfl)
     ·exact fun _ _ a _ _ e=>yM (e.1 rfl) rfl (a 3 rfl)
     ·exact fun _ _ _ _ _ e=>goOn_yes rfl rfl (e.2.2.1 rfl) (xI rfl Tryz.underlying27 b1 o1 k (hkl) (e.1 rfl) (e.2.1 rfl))
     ·exact fun _ _ _ _ _ e=>goOn_yes rfl rfl (e.2.1 rfl) (xF1 rfl (e.1 rfl))
     ·exact fun _ _ _ hL _ e=>goOn_yes rfl rfl (e.2.1 rfl) (xL rfl (cells_rat (hC.on (hbr.trans (hL.below.mono hbr.size)))) Tryz.underlying41 (hl1) (e.1 rfl))
     ·intro A w1 hA hL hS he;have hb:=hS rfl;have h26:=eT 26 (he.2.1 rfl);have h31:=eT 31 (he.1 rfl);have hf0:=eF A 67;refine goOn_yes rfl rfl h26 ?_;refine stepG_call (f:=67) (args:=#[.agg (r1).toArray]) rfl rfl ?_ ?_
      ·exact gZ
      ·refine (hsg _ (hbr.trans (hb.mono hbr.size))).mono ?_;rintro e w' ⟨rfl,hb'⟩;exact⟨_,rfl,hb',rfl⟩
     ·intro A w1 hA hL hS he;have h26:=eT 26 (he.2.1 rfl);have h32:=eT 32 (he.1 rfl);have hc0:=eC A (.int .i64 0);exact yZ h26 rfl
     ·exact fun _ _ _ _ _ e=>pK rfl (e.1 rfl) (e.2.1 rfl)
     ·exact fun _ _ _ _ _ e=>xM rfl (e.1 rfl)
     ·exact fun _ _ _ _ _ e=>nO true (e.1 rfl)
     ·exact fun _ _ _ _ _ e=>nO true (e.2.1 rfl)
     ·exact fun _ _ _ _ _ e=>nO true (e.2.1 rfl)
     ·exact fun _ _ _ _ _ e=>goOn_undef rfl rfl (e.1 rfl) rfl
     ·exact fun _ _ _ _ _ e=>goOn_undef rfl rfl (e.1 rfl) rfl
     ·exact fun _ _ _ _ _ e=>goOn_undef rfl rfl (e.2.1 rfl) rfl
     ·exact fun _ _ _ _ _ e=>goOn_undef rfl rfl (e.2.2.1 rfl) rfl
     ·exact fun _ _ _ _ _ e=>goOn_undef rfl rfl (e.2.1 rfl) rfl
     ·exact fun _ _ _ _ _ e=>goOn_undef rfl rfl (e.2.1 rfl) rfl
     ·exact fun _ _ _ _ _ e=>goOn_undef rfl rfl (e.1 rfl) rfl
     ·exact fun _ _ _ _ _ e=>goOn_undef rfl rfl (e.1 rfl) rfl
     ·exact fun _ _ _ _ _ e=>goOn_undef rfl rfl (e.2.2.1 rfl) rfl
     ·exact fun _ _ _ _ _ e=>goOn_undef rfl rfl (e.2.1 rfl) rfl
     ·exact fun _ _ _ _ _ e=>goOn_undef rfl rfl (e.2.1 rfl) rfl
     ·exact fun _ _ _ _ _ e=>goOn_undef rfl rfl (e.2.2.1 rfl) rfl
     ·exact fun _ _ _ _ _ e=>goOn_undef rfl rfl (e.2.1 rfl) rfl
     ·exact fun _ _ _ _ _ e=>nO true (e.2.2.1 rfl)
     ·exact fun _ _ _ _ _ e=>goOn_plain rfl (stepG_pk rfl (e.1 rfl) rfl rfl)
     ·intro W2 hL2;simp only [TailL,FactL.eq,FactL.ret,lZ];go_frame;go_wp2;go_ret;exact⟨by rw [hst.out] <;> rfl,hbr.trans (hL2.below.mono hbr.size)⟩
    ·have hs0:=sgnZ_ne hc;generalize sgnZ t.2.num=sg at hs0 hsg;have hs1:(sg == 0)=false:=by simpa using hs0
     cases k with
    |zero =>
      have hst:=hstep (by simp [okAt,hjq,hc,hn]);clear hstep hstop hpre hjq hn hc;simp only [Nat.zero_add] at hst;refine wp_region_L mixed (none) (0) (Okr.none) [.eq (.slice (some ⟨b1,o1,none⟩) l.length cp),.eq (.int .i64 0),.eq (.pointer (some ⟨b1,o1+0*8,none⟩)),.eq (.pointer (some ⟨b1,o1+0*8,none⟩)),.eq (.agg (exC t.1).toArray),.ret (.bool true),.eq (.bool false),.eq (.bool false),.eq (.slice (some ⟨b1,o1,none⟩) l.length cp),.eq (.int .i64 0),.eq (.pointer (some ⟨b1,o1+0*8,none⟩)),.eq (.pointer (some ⟨b1,o1+0*8+4,none⟩)),.eq (.agg (r1).toArray),.ret (.bool true),.eq (.bool false),.eq (.bool false),.eq (.bool false),.eq (.slice (some ⟨b1,o1,none⟩) l.length cp),.eq (.int .i64 0),.eq (.pointer (some ⟨b1,o1+0*8,none⟩)),.eq (.pointer (some ⟨b1,o1+0*8+4,none⟩)),.eq (.agg (r1).toArray),.ret (.int .i64 sg),.eq (.bool false),.eq (.bool false),.eq (.bool false),.eq (.int .i64 0),.eq (.bool false),.eq (.bool false),.eq undef,.eq undef,.eq undef,.eq undef,.eq undef,.eq undef,.eq undef,.eq undef,.eq undef,.eq undef,.eq undef,.eq undef,.eq undef,.eq (.bool false),.eq (.bool false)] [10,11,12,13,14,15,16,17,18,19,20,21,22,23,24,25,26,27,28,29,30,31,32,33,34,35,36,37,38,39,40,41,42,43,44,45,46,47,48,49,50,51,52,53] rfl rfl rfl rfl ⟨?_,?_,?_,?_,?_,?_,?_,?_,?_,?_,?_,?_,?_,?_,?_,?_,?_,?_,?_,?_,?_,?_,?_,?_,?_,?_,?_,?_,?_,?_,?_,?_,?_,?_,?_,?_,?_,?_,?_,?_,?_,?_,?_,?_,trivial⟩ ?_
      ·exact fun _ _ a _ _ _=>xM rfl (a 0 rfl)
      ·exact fun _ _ a _ _ _=>xM rfl (a 3 rfl)
      ·exact fun _ _ _ _ _ e=>pI rfl Tryz.underlying27 b1 o1 0 (hkl) (e.1 rfl) (e.2.1 rfl)
      ·exact fun _ _ _ _ _ e=>goOn_plain rfl (xF0 rfl (e.1 rfl))
      ·exact fun _ _ _ hL _ e=>pL rfl (cells_ex (hC.on (hbr.trans (hL.below.mono hbr.size)))) Tryz.underlying36 (show (exC t.1).length=4 from rfl) (e.1 rfl)
      ·intro A w1 hA hL hS he;have hb:=hS rfl;have h14:=eT 14 (he.1 rfl);have hf0:=eF A 65;refine goOn_plain rfl ?_;refine stepG_call (f:=65) (args:=#[.agg (exC t.1).toArray]) rfl rfl ?_ ?_
       ·exact gZ
       ·refine (hnt ▸ natural7_any t.1 _).mono ?_;rintro e w' ⟨rfl,hb'⟩;exact⟨_,rfl,hb',rfl⟩
      ·intro A w1 hA hL hS he;have h15:=eT 15 (he.1 rfl);exact pZ rfl
      ·exact fun _ _ _ _ _ e=>xM rfl (e.1 rfl)
      ·exact fun _ _ a _ _ e=>yM (e.1 rfl) rfl (a 0 rfl)
      ·exact fun _ _ a _ _ e=>yM (e.1 rfl) rfl (a 3 rfl)
      ·exact fun _ _ _ _ _ e=>goOn_yes rfl rfl (e.2.2.1 rfl) (xI rfl Tryz.underlying27 b1 o1 0 (hkl) (e.1 rfl) (e.2.1 rfl))
      ·exact fun _ _ _ _ _ e=>goOn_yes rfl rfl (e.2.1 rfl) (xF1 rfl (e.1 rfl))
      ·exact fun _ _ _ hL _ e=>goOn_yes rfl rfl (e.2.1 rfl) (xL rfl (cells_rat (hC.on (hbr.trans (hL.below.mono hbr.size)))) Tryz.underlying41 (hl1) (e.1 rfl))
      ·intro A w1 hA hL hS he;have hb:=hS rfl;have h17:=eT 17 (he.2.1 rfl);have h22:=eT 22 (he.1 rfl);have hf0:=eF A 66;refine goOn_yes rfl rfl h17 ?_;refine stepG_call (f:=66) (args:=#[.agg (r1).toArray]) rfl rfl ?_ ?_
       ·exact gZ
       ·refine (valid2_any _ _ _ (hr1.on (hbr.trans (hb.mono hbr.size))).rat hkt).mono ?_;rintro e w' ⟨rfl,hb'⟩;exact⟨_,rfl,hb',rfl⟩
      ·intro A w1 hA hL hS he;have h17:=eT 17 (he.2.1 rfl);have h23:=eT 23 (he.1 rfl);exact yZ h17 rfl
      ·exact fun _ _ _ _ _ e=>pK rfl (e.1 rfl) (e.2.1 rfl)
      ·exact fun _ _ _ _ _ e=>xM rfl (e.1 rfl)
      ·exact fun _ _ a _ _ e=>yM (e.1 rfl) rfl (a 0 rfl)
      ·exact fun _ _ a _ _ e=>yM (e.1 rfl) rfl (a 3 rfl)
      ·exact fun _ _ _ _ _ e=>goOn_yes rfl rfl (e.2.2.1 rfl) (xI rfl Tryz.underlying27 b1 o1 0 (hkl) (e.1 rfl) (e.2.1 rfl))
      ·exact fun _ _ _ _ _ e=>goOn_yes rfl rfl (e.2.1 rfl) (xF1 rfl (e.1 rfl))
      ·exact fun _ _ _ hL _ e=>goOn_yes rfl rfl (e.2.1 rfl) (xL rfl (cells_rat (hC.on (hbr.trans (hL.below.mono hbr.size)))) Tryz.underlying41 (hl1) (e.1 rfl))
      ·intro A w1 hA hL hS he;have hb:=hS rfl;have h26:=eT 26 (he.2.1 rfl);have h31:=eT 31 (he.1 rfl);have hf0:=eF A 67;refine goOn_yes rfl rfl h26 ?_;refine stepG_call (f:=67) (args:=#[.agg (r1).toArray]) rfl rfl ?_ ?_
       ·exact gZ
       ·refine (hsg _ (hbr.trans (hb.mono hbr.size))).mono ?_;rintro e w' ⟨rfl,hb'⟩;exact⟨_,rfl,hb',rfl⟩
      ·intro A w1 hA hL hS he;have h26:=eT 26 (he.2.1 rfl);have h32:=eT 32 (he.1 rfl);have hc0:=eC A (.int .i64 0);exact yZ h26 rfl
      ·exact fun _ _ _ _ _ e=>pK rfl (e.1 rfl) (e.2.1 rfl)
      ·exact fun _ _ _ _ _ e=>xM rfl (e.1 rfl)
      ·exact fun _ _ a _ _ e=>yM (e.1 rfl) rfl (a 3 rfl)
      ·intro A w1 hA hL hS he;have h35:=eT 35 (he.2.1 rfl);have h36:=eT 36 (he.1 rfl);have hc0:=eC A (.int .i64 0);exact yZ h35 rfl
      ·exact fun _ _ _ _ _ e=>yM (e.2.1 rfl) rfl (e.1 rfl)
      ·exact fun _ _ _ _ _ e=>nO false (e.1 rfl)
      ·exact fun _ _ _ _ _ e=>nO false (e.1 rfl)
      ·exact fun _ _ _ _ _ e=>nO false (e.2.1 rfl)
      ·exact fun _ _ _ _ _ e=>nO false (e.2.2.1 rfl)
      ·exact fun _ _ _ _ _ e=>nO false (e.2.1 rfl)
      ·exact fun _ _ _ _ _ e=>nO false (e.2.1 rfl)
      ·exact fun _ _ _ _ _ e=>nO false (e.1 rfl)
      ·exact fun _ _ _ _ _ e=>nO false (e.1 rfl)
      ·exact fun _ _ _ _ _ e=>nO false (e.2.2.1 rfl)
      ·exact fun _ _ _ _ _ e=>nO false (e.2.1 rfl)
      ·exact fun _ _ _ _ _ e=>nO false (e.2.1 rfl)
      ·exact fun _ _ _ _ _ e=>nO false (e.2.2.1 rfl)
      ·exact fun _ _ _ _ _ e=>nO false (e.2.1 rfl)
      ·exact fun _ _ _ _ _ e=>goOn_yes rfl rfl (e.2.2.1 rfl) (stepG_pk rfl (e.1 rfl) rfl rfl)
      ·exact fun _ _ _ _ _ e=>pK rfl (e.1 rfl) (e.2.1 rfl)
      ·intro W2 hL2;simp only [TailL,FactL.eq,FactL.ret,lZ];go_frame;go_wp2;go_roundw
       case rel=>exact⟨1,by omega,by go_num,hst,hbr.trans (hL2.below.mono hbr.size)⟩
       case measure=>simp [intOf];omega
    |succ i =>
      have hil:i<l.length:=by omega
      have hji:l[i]?=some l[i]:=List.getElem?_eq_getElem hil;generalize l[i]=s at hji;obtain⟨b2,o2,cs2,e2,-,hE2,hCp⟩:=h.get hji;cases e2;obtain⟨r2,rfl,hr2⟩:=hE2;change Cells monoT w b1 (o1+i*8) _ at hCp;have hk0:((0:Int)<((i+1:Nat):Int)):=by omega
      have hki:(((i+1:Nat):Int)-1)=(i:Int):=by omega
      by_cases hg:s.1.gt t.1=true
      ·have hgt:=hg;have hst:=hstep (by simp [okAt,hjq,hji,hc,hn,hg]);clear hstep hstop hpre hjq hji hn hc hg;refine wp_region_L mixed (none) (0) (Okr.none) [.eq (.slice (some ⟨b1,o1,none⟩) l.length cp),.eq (.int .i64 (i+1:Nat)),.eq (.pointer (some ⟨b1,o1+(i+1)*8,none⟩)),.eq (.pointer (some ⟨b1,o1+(i+1)*8,none⟩)),.eq (.agg (exC t.1).toArray),.ret (.bool true),.eq (.bool false),.eq (.bool false),.eq (.slice (some ⟨b1,o1,none⟩) l.length cp),.eq (.int .i64 (i+1:Nat)),.eq (.pointer (some ⟨b1,o1+(i+1)*8,none⟩)),.eq (.pointer (some ⟨b1,o1+(i+1)*8+4,none⟩)),.eq (.agg (r1).toArray),.ret (.bool true),.eq (.bool false),.eq (.bool false),.eq (.bool false),.eq (.slice (some ⟨b1,o1,none⟩) l.length cp),.eq (.int .i64 (i+1:Nat)),.eq (.pointer (some ⟨b1,o1+(i+1)*8,none⟩)),.eq (.pointer (some ⟨b1,o1+(i+1)*8+4,none⟩)),.eq (.agg (r1).toArray),.ret (.int .i64 sg),.eq (.bool false),.eq (.bool false),.eq (.bool false),.eq (.int .i64 (i+1:Nat)),.eq (.bool true),.eq (.bool true),.eq (.slice (some ⟨b1,o1,none⟩) l.length cp),.eq (.int .i64 (i+1:Nat)),.eq (.int .i64 i),.eq (.pointer (some ⟨b1,o1+i*8,none⟩)),.eq (.pointer (some ⟨b1,o1+i*8,none⟩)),.eq (.agg (exC s.1).toArray),.eq (.slice (some ⟨b1,o1,none⟩) l.length cp),.eq (.int .i64 (i+1:Nat)),.eq (.pointer (some ⟨b1,o1+(i+1)*8,none⟩)),.eq (.pointer (some ⟨b1,o1+(i+1)*8,none⟩)),.eq (.agg (exC t.1).toArray),.ret (.bool true),.eq (.bool false),.eq (.bool false),.eq (.bool false)] [10,11,12,13,14,15,16,17,18,19,20,21,22,23,24,25,26,27,28,29,30,31,32,33,34,35,36,37,38,39,40,41,42,43,44,45,46,47,48,49,50,51,52,53] rfl rfl rfl rfl ⟨?_,?_,?_,?_,?_,?_,?_,?_,?_,?_,?_,?_,?_,?_,?_,?_,?_,?_,?_,?_,?_,?_,?_,?_,?_,?_,?_,?_,?_,?_,?_,?_,?_,?_,?_,?_,?_,?_,?_,?_,?_,?_,?_,?_,trivial⟩ ?_
       ·exact fun _ _ a _ _ _=>xM rfl (a 0 rfl)
       ·exact fun _ _ a _ _ _=>xM rfl (a 3 rfl)
       ·exact fun _ _ _ _ _ e=>pI rfl Tryz.underlying27 b1 o1 (i+1) (hkl) (e.1 rfl) (e.2.1 rfl)
       ·exact fun _ _ _ _ _ e=>goOn_plain rfl (xF0 rfl (e.1 rfl))
       ·exact fun _ _ _ hL _ e=>pL rfl (cells_ex (hC.on (hbr.trans (hL.below.mono hbr.size)))) Tryz.underlying36 (show (exC t.1).length=4 from rfl) (e.1 rfl)
       ·intro A w1 hA hL hS he;have hb:=hS rfl;have h14:=eT 14 (he.1 rfl);have hf0:=eF A 65;refine goOn_plain rfl ?_;refine stepG_call (f:=65) (args:=#[.agg (exC t.1).toArray]) rfl rfl ?_ ?_
        ·exact gZ
        ·refine (hnt ▸ natural7_any t.1 _).mono ?_;rintro e w' ⟨rfl,hb'⟩;exact⟨_,rfl,hb',rfl⟩
       ·intro A w1 hA hL hS he;have h15:=eT 15 (he.1 rfl);exact pZ rfl
       ·exact fun _ _ _ _ _ e=>xM rfl (e.1 rfl)
       ·exact fun _ _ a _ _ e=>yM (e.1 rfl) rfl (a 0 rfl)
       ·exact fun _ _ a _ _ e=>yM (e.1 rfl) rfl (a 3 rfl)
       ·exact fun _ _ _ _ _ e=>goOn_yes rfl rfl (e.2.2.1 rfl) (xI rfl Tryz.underlying27 b1 o1 (i+1) (hkl) (e.1 rfl) (e.2.1 rfl))
       ·exact fun _ _ _ _ _ e=>goOn_yes rfl rfl (e.2.1 rfl) (xF1 rfl (e.1 rfl))
       ·exact fun _ _ _ hL _ e=>goOn_yes rfl rfl (e.2.1 rfl) (xL rfl (cells_rat (hC.on (hbr.trans (hL.below.mono hbr.size)))) Tryz.underlying41 (hl1) (e.1 rfl))
       ·intro A w1 hA hL hS he;have hb:=hS rfl;have h17:=eT 17 (he.2.1 rfl);have h22:=eT 22 (he.1 rfl);have hf0:=eF A 66;refine goOn_yes rfl rfl h17 ?_;refine stepG_call (f:=66) (args:=#[.agg (r1).toArray]) rfl rfl ?_ ?_
        ·exact gZ
        ·refine (valid2_any _ _ _ (hr1.on (hbr.trans (hb.mono hbr.size))).rat hkt).mono ?_;rintro e w' ⟨rfl,hb'⟩;exact⟨_,rfl,hb',rfl⟩
       ·intro A w1 hA hL hS he;have h17:=eT 17 (he.2.1 rfl);have h23:=eT 23 (he.1 rfl);exact yZ h17 rfl
       ·exact fun _ _ _ _ _ e=>pK rfl (e.1 rfl) (e.2.1 rfl)
       ·exact fun _ _ _ _ _ e=>xM rfl (e.1 rfl)
       ·exact fun _ _ a _ _ e=>yM (e.1 rfl) rfl (a 0 rfl)
       ·exact fun _ _ a _ _ e=>yM (e.1 rfl) rfl (a 3 rfl)
       ·exact fun _ _ _ _ _ e=>goOn_yes rfl rfl (e.2.2.1 rfl) (xI rfl Tryz.underlying27 b1 o1 (i+1) (hkl) (e.1 rfl) (e.2.1 rfl))
       ·exact fun _ _ _ _ _ e=>goOn_yes rfl rfl (e.2.1 rfl) (xF1 rfl (e.1 rfl))
       ·exact fun _ _ _ hL _ e=>goOn_yes rfl rfl (e.2.1 rfl) (xL rfl (cells_rat (hC.on (hbr.trans (hL.below.mono hbr.size)))) Tryz.underlying41 (hl1) (e.1 rfl))
       ·intro A w1 hA hL hS he;have hb:=hS rfl;have h26:=eT 26 (he.2.1 rfl);have h31:=eT 31 (he.1 rfl);have hf0:=eF A 67;refine goOn_yes rfl rfl h26 ?_;refine stepG_call (f:=67) (args:=#[.agg (r1).toArray]) rfl rfl ?_ ?_
        ·exact gZ
        ·refine (hsg _ (hbr.trans (hb.mono hbr.size))).mono ?_;rintro e w' ⟨rfl,hb'⟩;exact⟨_,rfl,hb',rfl⟩
       ·intro A w1 hA hL hS he;have h26:=eT 26 (he.2.1 rfl);have h32:=eT 32 (he.1 rfl);have hc0:=eC A (.int .i64 0);exact yZ h26 rfl
       ·exact fun _ _ _ _ _ e=>pK rfl (e.1 rfl) (e.2.1 rfl)
       ·exact fun _ _ _ _ _ e=>xM rfl (e.1 rfl)
       ·exact fun _ _ a _ _ e=>yM (e.1 rfl) rfl (a 3 rfl)
       ·intro A w1 hA hL hS he;have h35:=eT 35 (he.2.1 rfl);have h36:=eT 36 (he.1 rfl);have hc0:=eC A (.int .i64 0);exact yZ h35 rfl
       ·exact fun _ _ _ _ _ e=>yM (e.2.1 rfl) rfl (e.1 rfl)
       ·exact fun _ _ a _ _ e=>yM (e.1 rfl) rfl (a 0 rfl)
       ·exact fun _ _ a _ _ e=>yM (e.1 rfl) rfl (a 3 rfl)
       ·intro A w1 hA hL hS he;have h38:=eT 38 (he.2.1 rfl);have h40:=eT 40 (he.1 rfl);have hc0:=eC A (.int .i64 1);refine goOn_yes rfl rfl h38 ?_;refine stepG_pure rfl rfl ?_;generalize A.eval=ev at *;go_simp;rw [wrap_id (by omega)]
       ·exact fun _ _ _ _ _ e=>goOn_yes rfl rfl (e.2.2.1 rfl) (xI rfl Tryz.underlying27 b1 o1 i (hil) (e.1 rfl) (e.2.1 rfl))
       ·exact fun _ _ _ _ _ e=>goOn_yes rfl rfl (e.2.1 rfl) (xF0 rfl (e.1 rfl))
       ·exact fun _ _ _ hL _ e=>goOn_yes rfl rfl (e.2.1 rfl) (xL rfl (cells_ex (hCp.on (hbr.trans (hL.below.mono hbr.size)))) Tryz.underlying36 (show (exC s.1).length=4 from rfl) (e.1 rfl))
       ·exact fun _ _ a _ _ e=>yM (e.1 rfl) rfl (a 0 rfl)
       ·exact fun _ _ a _ _ e=>yM (e.1 rfl) rfl (a 3 rfl)
       ·exact fun _ _ _ _ _ e=>goOn_yes rfl rfl (e.2.2.1 rfl) (xI rfl Tryz.underlying27 b1 o1 (i+1) (hkl) (e.1 rfl) (e.2.1 rfl))
       ·exact fun _ _ _ _ _ e=>goOn_yes rfl rfl (e.2.1 rfl) (xF0 rfl (e.1 rfl))
       ·exact fun _ _ _ hL _ e=>goOn_yes rfl rfl (e.2.1 rfl) (xL rfl (cells_ex (hC.on (hbr.trans (hL.below.mono hbr.size)))) Tryz.underlying36 (show (exC t.1).length=4 from rfl) (e.1 rfl))
       ·intro A w1 hA hL hS he;have hb:=hS rfl;have h38:=eT 38 (he.2.2.1 rfl);have h44:=eT 44 (he.1 rfl);have h49:=eT 49 (he.2.1 rfl);have hf0:=eF A 68;refine goOn_yes rfl rfl h38 ?_;refine stepG_call (f:=68) (args:=#[.agg (exC s.1).toArray,.agg (exC t.1).toArray]) rfl rfl ?_ ?_
        ·exact gZ
        ·refine (hgt ▸ greater_any s.1 t.1 _).mono ?_;rintro e w' ⟨rfl,hb'⟩;exact⟨_,rfl,hb',rfl⟩
       ·intro A w1 hA hL hS he;have h38:=eT 38 (he.2.1 rfl);have h50:=eT 50 (he.1 rfl);exact yZ h38 rfl
       ·exact fun _ _ _ _ _ e=>goOn_yes rfl rfl (e.2.2.1 rfl) (stepG_pk rfl (e.1 rfl) rfl (e.2.1 rfl))
       ·exact fun _ _ _ _ _ e=>pK rfl (e.1 rfl) (e.2.1 rfl)
       ·intro W2 hL2;simp only [TailL,FactL.eq,FactL.ret,lZ];go_frame;go_wp2;go_roundw
        case rel=>exact⟨i+1+1,by omega,by go_num,hst,hbr.trans (hL2.below.mono hbr.size)⟩
        case measure=>simp [intOf];omega
      ·have hg':s.1.gt t.1=false:=by simpa using hg
       have hgt:=hg';have hst:=hstop (by simp [okAt,hjq,hji,hg']);clear hstep hstop hpre hjq hji hn hc hg hg';refine wp_region_L mixed (none) (0) (Okr.none) [.eq (.slice (some ⟨b1,o1,none⟩) l.length cp),.eq (.int .i64 (i+1:Nat)),.eq (.pointer (some ⟨b1,o1+(i+1)*8,none⟩)),.eq (.pointer (some ⟨b1,o1+(i+1)*8,none⟩)),.eq (.agg (exC t.1).toArray),.ret (.bool true),.eq (.bool false),.eq (.bool false),.eq (.slice (some ⟨b1,o1,none⟩) l.length cp),.eq (.int .i64 (i+1:Nat)),.eq (.pointer (some ⟨b1,o1+(i+1)*8,none⟩)),.eq (.pointer (some ⟨b1,o1+(i+1)*8+4,none⟩)),.eq (.agg (r1).toArray),.ret (.bool true),.eq (.bool false),.eq (.bool false),.eq (.bool false),.eq (.slice (some ⟨b1,o1,none⟩) l.length cp),.eq (.int .i64 (i+1:Nat)),.eq (.pointer (some ⟨b1,o1+(i+1)*8,none⟩)),.eq (.pointer (some ⟨b1,o1+(i+1)*8+4,none⟩)),.eq (.agg (r1).toArray),.ret (.int .i64 sg),.eq (.bool false),.eq (.bool false),.eq (.bool false),.eq (.int .i64 (i+1:Nat)),.eq (.bool true),.eq (.bool true),.eq (.slice (some ⟨b1,o1,none⟩) l.length cp),.eq (.int .i64 (i+1:Nat)),.eq (.int .i64 i),.eq (.pointer (some ⟨b1,o1+i*8,none⟩)),.eq (.pointer (some ⟨b1,o1+i*8,none⟩)),.eq (.agg (exC s.1).toArray),.eq (.slice (some ⟨b1,o1,none⟩) l.length cp),.eq (.int .i64 (i+1:Nat)),.eq (.pointer (some ⟨b1,o1+(i+1)*8,none⟩)),.eq (.pointer (some ⟨b1,o1+(i+1)*8,none⟩)),.eq (.agg (exC t.1).toArray),.ret (.bool false),.eq (.bool true),.eq (.bool true),.eq (.bool true)] [10,11,12,13,14,15,16,17,18,19,20,21,22,23,24,25,26,27,28,29,30,31,32,33,34,35,36,37,38,39,40,41,42,43,44,45,46,47,48,49,50,51,52,53] rfl rfl rfl rfl ⟨?_,?_,?_,?_,?_,?_,?_,?_,?_,?_,?_,?_,?_,?_,?_,?_,?_,?_,?_,?_,?_,?_,?_,?_,?_,?_,?_,?_,?_,?_,?_,?_,?_,?_,?_,?_,?_,?_,?_,?_,?_,?_,?_,?_,trivial⟩ ?_
       ·exact fun _ _ a _ _ _=>xM rfl (a 0 rfl)
       ·exact fun _ _ a _ _ _=>xM rfl (a 3 rfl)
       ·exact fun _ _ _ _ _ e=>pI rfl Tryz.underlying27 b1 o1 (i+1) (hkl) (e.1 rfl) (e.2.1 rfl)
       ·exact fun _ _ _ _ _ e=>goOn_plain rfl (xF0 rfl (e.1 rfl))
       ·exact fun _ _ _ hL _ e=>pL rfl (cells_ex (hC.on (hbr.trans (hL.below.mono hbr.size)))) Tryz.underlying36 (show (exC t.1).length=4 from rfl) (e.1 rfl)
       ·intro A w1 hA hL hS he;have hb:=hS rfl;have h14:=eT 14 (he.1 rfl);have hf0:=eF A 65;refine goOn_plain rfl ?_;refine stepG_call (f:=65) (args:=#[.agg (exC t.1).toArray]) rfl rfl ?_ ?_
        ·exact gZ
        ·refine (hnt ▸ natural7_any t.1 _).mono ?_;rintro e w' ⟨rfl,hb'⟩;exact⟨_,rfl,hb',rfl⟩
       ·intro A w1 hA hL hS he;have h15:=eT 15 (he.1 rfl);exact pZ rfl
       ·exact fun _ _ _ _ _ e=>xM rfl (e.1 rfl)
       ·exact fun _ _ a _ _ e=>yM (e.1 rfl) rfl (a 0 rfl)
       ·exact fun _ _ a _ _ e=>yM (e.1 rfl) rfl (a 3 rfl)
       ·exact fun _ _ _ _ _ e=>goOn_yes rfl rfl (e.2.2.1 rfl) (xI rfl Tryz.underlying27 b1 o1 (i+1) (hkl) (e.1 rfl) (e.2.1 rfl))
       ·exact fun _ _ _ _ _ e=>goOn_yes rfl rfl (e.2.1 rfl) (xF1 rfl (e.1 rfl))
       ·exact fun _ _ _ hL _ e=>goOn_yes rfl rfl (e.2.1 rfl) (xL rfl (cells_rat (hC.on (hbr.trans (hL.below.mono hbr.size)))) Tryz.underlying41 (hl1) (e.1 rfl))
       ·intro A w1 hA hL hS he;have hb:=hS rfl;have h17:=eT 17 (he.2.1 rfl);have h22:=eT 22 (he.1 rfl);have hf0:=eF A 66;refine goOn_yes rfl rfl h17 ?_;refine stepG_call (f:=66) (args:=#[.agg (r1).toArray]) rfl rfl ?_ ?_
        ·exact gZ
        ·refine (valid2_any _ _ _ (hr1.on (hbr.trans (hb.mono hbr.size))).rat hkt).mono ?_;rintro e w' ⟨rfl,hb'⟩;exact⟨_,rfl,hb',rfl⟩
       ·intro A w1 hA hL hS he;have h17:=eT 17 (he.2.1 rfl);have h23:=eT 23 (he.1 rfl);exact yZ h17 rfl
       ·exact fun _ _ _ _ _ e=>pK rfl (e.1 rfl) (e.2.1 rfl)
       ·exact fun _ _ _ _ _ e=>xM rfl (e.1 rfl)
       ·exact fun _ _ a _ _ e=>yM (e.1 rfl) rfl (a 0 rfl)
       ·exact fun _ _ a _ _ e=>yM (e.1 rfl) rfl (a 3 rfl)
       ·exact fun _ _ _ _ _ e=>goOn_yes rfl rfl (e.2.2.1 rfl) (xI rfl Tryz.underlying27 b1 o1 (i+1) (hkl) (e.1 rfl) (e.2.1 rfl))
       ·exact fun _ _ _ _ _ e=>goOn_yes rfl rfl (e.2.1 rfl) (xF1 rfl (e.1 rfl))
       ·exact fun _ _ _ hL _ e=>goOn_yes rfl rfl (e.2.1 rfl) (xL rfl (cells_rat (hC.on (hbr.trans (hL.below.mono hbr.size)))) Tryz.underlying41 (hl1) (e.1 rfl))
       ·intro A w1 hA hL hS he;have hb:=hS rfl;have h26:=eT 26 (he.2.1 rfl);have h31:=eT 31 (he.1 rfl);have hf0:=eF A 67;refine goOn_yes rfl rfl h26 ?_;refine stepG_call (f:=67) (args:=#[.agg (r1).toArray]) rfl rfl ?_ ?_
        ·exact gZ
        ·refine (hsg _ (hbr.trans (hb.mono hbr.size))).mono ?_;rintro e w' ⟨rfl,hb'⟩;exact⟨_,rfl,hb',rfl⟩
       ·intro A w1 hA hL hS he;have h26:=eT 26 (he.2.1 rfl);have h32:=eT 32 (he.1 rfl);have hc0:=eC A (.int .i64 0);exact yZ h26 rfl
       ·exact fun _ _ _ _ _ e=>pK rfl (e.1 rfl) (e.2.1 rfl)
       ·exact fun _ _ _ _ _ e=>xM rfl (e.1 rfl)
       ·exact fun _ _ a _ _ e=>yM (e.1 rfl) rfl (a 3 rfl)
       ·intro A w1 hA hL hS he;have h35:=eT 35 (he.2.1 rfl);have h36:=eT 36 (he.1 rfl);have hc0:=eC A (.int .i64 0);exact yZ h35 rfl
       ·exact fun _ _ _ _ _ e=>yM (e.2.1 rfl) rfl (e.1 rfl)
       ·exact fun _ _ a _ _ e=>yM (e.1 rfl) rfl (a 0 rfl)
       ·exact fun _ _ a _ _ e=>yM (e.1 rfl) rfl (a 3 rfl)
       ·intro A w1 hA hL hS he;have h38:=eT 38 (he.2.1 rfl);have h40:=eT 40 (he.1 rfl);have hc0:=eC A (.int .i64 1);refine goOn_yes rfl rfl h38 ?_;refine stepG_pure rfl rfl ?_;generalize A.eval=ev at *;go_simp;rw [wrap_id (by omega)]
       ·exact fun _ _ _ _ _ e=>goOn_yes rfl rfl (e.2.2.1 rfl) (xI rfl Tryz.underlying27 b1 o1 i (hil) (e.1 rfl) (e.2.1 rfl))
       ·exact fun _ _ _ _ _ e=>goOn_yes rfl rfl (e.2.1 rfl) (xF0 rfl (e.1 rfl))
       ·exact fun _ _ _ hL _ e=>goOn_yes rfl rfl (e.2.1 rfl) (xL rfl (cells_ex (hCp.on (hbr.trans (hL.below.mono hbr.size)))) Tryz.underlying36 (show (exC s.1).length=4 from rfl) (e.1 rfl))
       ·exact fun _ _ a _ _ e=>yM (e.1 rfl) rfl (a 0 rfl)
       ·exact fun _ _ a _ _ e=>yM (e.1 rfl) rfl (a 3 rfl)
       ·exact fun _ _ _ _ _ e=>goOn_yes rfl rfl (e.2.2.1 rfl) (xI rfl Tryz.underlying27 b1 o1 (i+1) (hkl) (e.1 rfl) (e.2.1 rfl))
       ·exact fun _ _ _ _ _ e=>goOn_yes rfl rfl (e.2.1 rfl) (xF0 rfl (e.1 rfl))
       ·exact fun _ _ _ hL _ e=>goOn_yes rfl rfl (e.2.1 rfl) (xL rfl (cells_ex (hC.on (hbr.trans (hL.below.mono hbr.size)))) Tryz.underlying36 (show (exC t.1).length=4 from rfl) (e.1 rfl))
       ·intro A w1 hA hL hS he;have hb:=hS rfl;have h38:=eT 38 (he.2.2.1 rfl);have h44:=eT 44 (he.1 rfl);have h49:=eT 49 (he.2.1 rfl);have hf0:=eF A 68;refine goOn_yes rfl rfl h38 ?_;refine stepG_call (f:=68) (args:=#[.agg (exC s.1).toArray,.agg (exC t.1).toArray]) rfl rfl ?_ ?_
        ·exact gZ
        ·refine (hgt ▸ greater_any s.1 t.1 _).mono ?_;rintro e w' ⟨rfl,hb'⟩;exact⟨_,rfl,hb',rfl⟩
       ·intro A w1 hA hL hS he;have h38:=eT 38 (he.2.1 rfl);have h50:=eT 50 (he.1 rfl);exact yZ h38 rfl
       ·exact fun _ _ _ _ _ e=>goOn_yes rfl rfl (e.2.2.1 rfl) (stepG_pk rfl (e.1 rfl) rfl (e.2.1 rfl))
       ·exact fun _ _ _ _ _ e=>pK rfl (e.1 rfl) (e.2.1 rfl)
       ·intro W2 hL2;simp only [TailL,FactL.eq,FactL.ret,lZ];go_frame;go_wp2;go_ret;exact⟨by rw [hst.out] <;> rfl,hbr.trans (hL2.below.mono hbr.size)⟩
   ·have hn':t.1.nat=false:=by simpa using hn
    have hnt:=hn';have hst:=hstop (by simp [okAt,hjq,hn']);clear hstep hstop hpre hjq hn hn';refine wp_region_L mixed (none) (0) (Okr.none) [.eq (.slice (some ⟨b1,o1,none⟩) l.length cp),.eq (.int .i64 k),.eq (.pointer (some ⟨b1,o1+k*8,none⟩)),.eq (.pointer (some ⟨b1,o1+k*8,none⟩)),.eq (.agg (exC t.1).toArray),.ret (.bool false),.eq (.bool true),.eq (.bool true),.eq undef,.eq undef,.eq undef,.eq undef,.eq undef,.eq undef,.eq undef,.eq (.bool true),.eq (.bool true),.eq undef,.eq undef,.eq undef,.eq undef,.eq undef,.eq undef,.eq undef,.eq (.bool true),.eq (.bool true),.eq undef,.eq undef,.eq undef,.eq undef,.eq undef,.eq undef,.eq undef,.eq undef,.eq undef,.eq undef,.eq undef,.eq undef,.eq undef,.eq undef,.eq undef,.eq undef,.eq undef,.eq (.bool true)] [10,11,12,13,14,15,16,17,18,19,20,21,22,23,24,25,26,27,28,29,30,31,32,33,34,35,36,37,38,39,40,41,42,43,44,45,46,47,48,49,50,51,52,53] rfl rfl rfl rfl ⟨?_,?_,?_,?_,?_,?_,?_,?_,?_,?_,?_,?_,?_,?_,?_,?_,?_,?_,?_,?_,?_,?_,?_,?_,?_,?_,?_,?_,?_,?_,?_,?_,?_,?_,?_,?_,?_,?_,?_,?_,?_,?_,?_,?_,trivial⟩ ?_
    ·exact fun _ _ a _ _ _=>xM rfl (a 0 rfl)
    ·exact fun _ _ a _ _ _=>xM rfl (a 3 rfl)
    ·exact fun _ _ _ _ _ e=>pI rfl Tryz.underlying27 b1 o1 k (hkl) (e.1 rfl) (e.2.1 rfl)
    ·exact fun _ _ _ _ _ e=>goOn_plain rfl (xF0 rfl (e.1 rfl))
    ·exact fun _ _ _ hL _ e=>pL rfl (cells_ex (hC.on (hbr.trans (hL.below.mono hbr.size)))) Tryz.underlying36 (show (exC t.1).length=4 from rfl) (e.1 rfl)
    ·intro A w1 hA hL hS he;have hb:=hS rfl;have h14:=eT 14 (he.1 rfl);have hf0:=eF A 65;refine goOn_plain rfl ?_;refine stepG_call (f:=65) (args:=#[.agg (exC t.1).toArray]) rfl rfl ?_ ?_
     ·exact gZ
     ·refine (hnt ▸ natural7_any t.1 _).mono ?_;rintro e w' ⟨rfl,hb'⟩;exact⟨_,rfl,hb',rfl⟩
    ·intro A w1 hA hL hS he;have h15:=eT 15 (he.1 rfl);exact pZ rfl
    ·exact fun _ _ _ _ _ e=>xM rfl (e.1 rfl)
    ·exact fun _ _ _ _ _ e=>nO true (e.1 rfl)
    ·exact fun _ _ _ _ _ e=>nO true (e.1 rfl)
    ·exact fun _ _ _ _ _ e=>nO true (e.2.2.1 rfl)
    ·exact fun _ _ _ _ _ e=>nO true (e.2.1 rfl)
    ·exact fun _ _ _ _ _ e=>nO true (e.2.1 rfl)
    ·exact fun _ _ _ _ _ e=>nO true (e.2.1 rfl)
    ·exact fun _ _ _ _ _ e=>nO true (e.2.1 rfl)
    ·exact fun _ _ _ _ _ e=>goOn_plain rfl (stepG_pk rfl (e.1 rfl) rfl rfl)
    ·exact fun _ _ _ _ _ e=>xM rfl (e.1 rfl)
    ·exact fun _ _ _ _ _ e=>nO true (e.1 rfl)
    ·exact fun _ _ _ _ _ e=>nO true (e.1 rfl)
    ·exact fun _ _ _ _ _ e=>nO true (e.2.2.1 rfl)
    ·exact fun _ _ _ _ _ e=>nO true (e.2.1 rfl)
    ·exact fun _ _ _ _ _ e=>nO true (e.2.1 rfl)
    ·exact fun _ _ _ _ _ e=>nO true (e.2.1 rfl)
    ·exact fun _ _ _ _ _ e=>nO true (e.2.1 rfl)
    ·exact fun _ _ _ _ _ e=>goOn_plain rfl (stepG_pk rfl (e.1 rfl) rfl rfl)
    ·exact fun _ _ _ _ _ e=>xM rfl (e.1 rfl)
    ·exact fun _ _ _ _ _ e=>nO true (e.1 rfl)
    ·exact fun _ _ _ _ _ e=>nO true (e.2.1 rfl)
    ·exact fun _ _ _ _ _ e=>nO true (e.2.1 rfl)
    ·exact fun _ _ _ _ _ e=>goOn_undef rfl rfl (e.1 rfl) rfl
    ·exact fun _ _ _ _ _ e=>goOn_undef rfl rfl (e.1 rfl) rfl
    ·exact fun _ _ _ _ _ e=>goOn_undef rfl rfl (e.2.1 rfl) rfl
    ·exact fun _ _ _ _ _ e=>goOn_undef rfl rfl (e.2.2.1 rfl) rfl
    ·exact fun _ _ _ _ _ e=>goOn_undef rfl rfl (e.2.1 rfl) rfl
    ·exact fun _ _ _ _ _ e=>goOn_undef rfl rfl (e.2.1 rfl) rfl
    ·exact fun _ _ _ _ _ e=>goOn_undef rfl rfl (e.1 rfl) rfl
    ·exact fun _ _ _ _ _ e=>goOn_undef rfl rfl (e.1 rfl) rfl
    ·exact fun _ _ _ _ _ e=>goOn_undef rfl rfl (e.2.2.1 rfl) rfl
    ·exact fun _ _ _ _ _ e=>goOn_undef rfl rfl (e.2.1 rfl) rfl
    ·exact fun _ _ _ _ _ e=>goOn_undef rfl rfl (e.2.1 rfl) rfl
    ·exact fun _ _ _ _ _ e=>goOn_undef rfl rfl (e.2.2.1 rfl) rfl
    ·exact fun _ _ _ _ _ e=>goOn_undef rfl rfl (e.2.1 rfl) rfl
    ·exact fun _ _ _ _ _ e=>nO true (e.2.2.1 rfl)
    ·exact fun _ _ _ _ _ e=>goOn_plain rfl (stepG_pk rfl (e.1 rfl) rfl rfl)
    ·intro W2 hL2;simp only [TailL,FactL.eq,FactL.ret,lZ];go_frame;go_wp2;go_ret;exact⟨by rw [hst.out] <;> rfl,hbr.trans (hL2.below.mono hbr.size)⟩
  ·obtain rfl:k=l.length:=by omega
   have hst:Hid (R=true):=hall.out.2 (fun i hi=>hpre.out i hi);go_wp2;go_ret;exact⟨by rw [hst.out] <;> rfl,hbr⟩
end Go.Proofs.YtopclbeomcggiaaGreat
