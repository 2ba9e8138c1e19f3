/- The reference's polynomials: insert, Make. The reference's polynomials: Make, Equal, Same. The reference's polynomials: Var, Const, Whole, Equal, Same. law07.term. Slices of terms; facts for terms. Small laws of lists and cells. The reference's lists of polynomials: SameList. -/
import Derived.Test.YtopclbeomcggiaaGreatE02
import Derived.Test.YtopclbeomcggiaaGreatE04
import Derived.Test.YtopclbeomcggiaaGreatE20
import Derived.Test.YtopclbeomcggiaaGreatE24
import Derived.Test.YtopclbeomcggiaaGreatE25
set_option linter.unusedVariables false
set_option linter.unusedSimpArgs false
set_option maxHeartbeats 16000000
set_option maxRecDepth 100000
section
namespace Q
def insT (n:Trm) (r:List Trm):List Trm:=if n.2≠0/\n.1.nat=true then n::r else r
theorem ins_skip {m:Trm}:∀ {k:Nat} {p:List Trm},(∀ t∈p.take k,t.1.gt m.1=true)->ins p m=p.take k++ins (p.drop k) m
|0,p,_=>by simp
|k+1,[],_=>by simp
|k+1,t::p,h=>by
  have h1:=h t (by simp);have h2:=ins_skip (m:=m) (k:=k) (p:=p) (fun s hs=>h s (by simp [hs]));rw [List.take_succ_cons,List.drop_succ_cons,ins,if_pos h1,h2];rfl
theorem ins_nil' (m:Trm):ins [] m=insT m []:=rfl
theorem ins_eq' {t m:Trm} {r:List Trm} (h:t.1=m.1):ins (t::r) m=insT (m.1,m.2+t.2) r:=by
 rw [ins,if_neg (by rw [h,Ex.gt_irrefl];simp),if_pos h];rfl
theorem ins_ne' {t m:Trm} {r:List Trm} (hg:t.1.gt m.1=false) (h:t.1≠m.1):ins (t::r) m=insT m (t::r):=by
 rw [ins,if_neg (by rw [hg];simp),if_neg h];rfl
end Q
namespace Go.Proofs.YtopclbeomcggiaaGreat
open Go.RowKit Q
theorem eq_ex (e f:Ex) (w:World):(Op.equalIn 10000 36 (.agg (exC e).toArray) (.agg (exC f).toArray)).run Tryz.prog w=.ok (decide (e=f)) w:=by
 obtain⟨x1,x2,x3,x4⟩:=e;obtain⟨y1,y2,y3,y4⟩:=f;simp only [exC];have u3:=Tryz.underlying3;have a3:=Tryz.isAgg3;have z3:=Tryz.sizeOf3;rw [show (10000:Nat)=9999+1 from rfl,Op.equalIn];simp only [Sem.run_bind,run_underlying Tryz.underlying36,Result.andThen_ok];simp only [Std.Legacy.Range.forIn_eq_forIn_range',Std.Legacy.Range.size,Nat.sub_zero,Nat.add_sub_cancel,Nat.div_one,List.range'_succ,List.range'_zero,List.forIn_cons,List.forIn_nil];go_simp;by_cases h1:x1=y1 <;> by_cases h2:x2=y2 <;> by_cases h3:x3=y3 <;> by_cases h4:x4=y4 <;> simp [h1,h2,h3,h4]
theorem blk_ex {w:World} {b:Nat} {e:Ex} {r:List Value} (h:Blk w b monoT (exC e++r)):w.rangeAt b 0 (exC e):=cells_ex h.cells
theorem blk_rat {w:World} {b:Nat} {e:Ex} {r:List Value} (h:Blk w b monoT (exC e++r)):w.rangeAt b (0+4) r:=cells_rat h.cells
end Go.Proofs.YtopclbeomcggiaaGreat
namespace Q
open Go Go.RowKit Q Go.Proofs.YtopclbeomcggiaaGreat
theorem OwnSl.rebase {α:Type} {e:El α} {base:Nat} {w:World} {v:Value} {l:List α} (h:OwnSl e base w v l):OwnSl e 0 w v l:=by
 obtain⟨xs,⟨h1,h2⟩,h3⟩:=h;refine⟨xs,⟨h1,?_⟩,h3⟩;rcases h2 with h2|⟨g,cap,cur,h4,h5,h6⟩
 ·exact .inl h2
 ·exact .inr ⟨g,cap,cur,h4,Nat.zero_le _,h6⟩
end Q
namespace Go.Proofs.YtopclbeomcggiaaGreat
open Go.RowKit Q
theorem insert_any (vp:Value) (p:List Trm) (cs:List Value) (m:Trm) (w:World) (hp:IsPoly w vp p) (hm:IsTerm w cs m) (hkp:∀ t∈p,Rs t.2) (hkm:Rs m.2) (hpl:p.length<=100000000) :
  Calls Tryz.prog 82 #[vp,.agg cs.toArray] w (RetPoly w (ins p m)):=by
 obtain⟨ap,cp,rfl,hcp⟩:=hp.shape;obtain⟨r,rfl,hr⟩:=hm;obtain⟨e,q⟩:=m;simp only at hr hkm ⊢;replace hkp:=zH hkp;obtain⟨RES,hRES⟩:∃ RES,RES=ins p (e,q):=⟨_,rfl⟩;rw [<- hRES];replace hRES:=zH hRES;have h4:=hr.len
 go_enter Tryz.func82,Tryz.ntmps82
 go_upto_region 1 with (fail)
 refine abs1 fun W hb0 B hsz=>?_;go_wp2
 go_loopw [5] (fun i wr=>∃ k:Nat,k<=p.length/\i=.int .i64 k/\Hid (∀ t∈p.take k,t.1.gt e=true)/\Below w.heap.size w wr/\Hid (Blk wr w.heap.size monoT (exC e++r))) (fun i _=>p.length-(intOf i).toNat)
 case atStart=>exact⟨0,by omega,rfl,zH (by simp),hb0,zH B⟩
 case round =>
  clear hb0 B hsz;obtain⟨k,hk,rfl,hpre,hbr,hB⟩:=hrel;have BB:=hB.out;obtain⟨g,hgd⟩:∃ g:Bool,g=(match p[k]? with|some t=>t.1.gt e|none=>false):=⟨_,rfl⟩
  go_upto_region 2 with (fail)
  go_cut [8,9,10,11,12,13,14,15,16,17,18,19,20,21] (fun _ _ _ _ _ _ _ _ _ _ _ _ _ v21 wc=>v21=.bool g/\Below wr.heap.size wr wc)
  case first =>
   by_cases hkl:k<p.length
   ·have hjq:p[k]?=some p[k]:=List.getElem?_eq_getElem hkl;rw [hjq] at hgd;generalize p[k]=t at hjq hgd;obtain⟨bp,op,csp,rfl,-,hE,hC⟩:=(hp.on hbr).get hjq;obtain⟨rt,rfl,hrt⟩:=hE;change Cells monoT wr bp (op+k*8) _ at hC;have hkl':(k:Int)<p.length:=by omega
    simp only at hgd;refine wp_region_L mixed (none) (0) (Okr.none) [.eq (.int .i64 k),.eq (.slice (some ⟨bp,op,none⟩) p.length cp),.eq (.int .i64 p.length),.eq (.bool true),.eq (.bool true),.eq (.slice (some ⟨bp,op,none⟩) p.length cp),.eq (.int .i64 k),.eq (.pointer (some ⟨bp,op+k*8,none⟩)),.eq (.pointer (some ⟨bp,op+k*8,none⟩)),.eq (.agg (exC t.1).toArray),.eq (.pointer (some ⟨w.heap.size,0,none⟩)),.eq (.agg (exC e).toArray),.ret (.bool (t.1.gt e)),.eq (.bool (t.1.gt e))] [8,9,10,11,12,13,14,15,16,17,18,19,20,21] rfl rfl rfl rfl ⟨?_,?_,?_,?_,?_,?_,?_,?_,?_,?_,?_,?_,?_,?_,trivial⟩ ?_
    ·exact fun _ _ a _ _ _=>xM rfl (a 5 rfl)
    ·exact fun _ _ a _ _ _=>xM rfl (a 0 rfl)
    ·intro A w1 hA hL hS he;have h9:=eT 9 (he.1 rfl);exact pZ rfl
    ·intro A w1 hA hL hS he;have h8:=eT 8 (he.1 rfl);have h10:=eT 10 (he.2.1 rfl);exact pZ rfl
    ·exact fun _ _ _ _ _ e=>xM rfl (e.1 rfl)
    ·exact fun _ _ a _ _ e=>yM (e.1 rfl) rfl (a 0 rfl)
    ·exact fun _ _ a _ _ e=>yM (e.1 rfl) rfl (a 5 rfl)
    ·exact fun _ _ _ _ _ e=>goOn_yes rfl rfl (e.2.2.1 rfl) (xI rfl Tryz.underlying27 bp op k (hkl) (e.1 rfl) (e.2.1 rfl))
    ·exact fun _ _ _ _ _ e=>goOn_yes rfl rfl (e.2.1 rfl) (xF0 rfl (e.1 rfl))
    ·exact fun _ _ _ hL _ e=>goOn_yes rfl rfl (e.2.1 rfl) (xL rfl (cells_ex (hC.on hL.below)) Tryz.underlying36 (show (exC t.1).length=4 from rfl) (e.1 rfl))
    ·exact fun _ _ a _ _ e=>goOn_yes rfl rfl (e.1 rfl) (xF0 rfl (a 3 rfl))
    ·exact fun A w1 hA hL hS he=>goOn_yes rfl rfl (he.2.1 rfl) (xL rfl (blk_ex (BB.on hL.below)) Tryz.underlying36 (show (exC e).length=4 from rfl) (he.1 rfl))
    ·intro A w1 hA hL hS he;have hb:=hS rfl;have h12:=eT 12 (he.2.2.1 rfl);have h17:=eT 17 (he.1 rfl);have h19:=eT 19 (he.2.1 rfl);have hf0:=eF A 68;refine goOn_yes rfl rfl h12 ?_;refine stepG_call (f:=68) (args:=#[.agg (exC t.1).toArray,.agg (exC e).toArray]) rfl rfl ?_ ?_
     ·exact gZ
     ·refine (greater_any t.1 e _).mono ?_;rintro e w' ⟨rfl,hb'⟩;exact⟨_,rfl,hb',rfl⟩
    ·exact fun _ _ _ _ _ e=>pK rfl (e.1 rfl) (e.2.1 rfl)
    ·intro W2 hL2;simp only [TailL,FactL.eq,FactL.ret,lZ];go_frame;go_wp2;go_meet
     case rel=>exact⟨by rw [hgd],hL2.below⟩
   ·rw [List.getElem?_eq_none (by omega)] at hgd;obtain rfl:k=p.length:=by omega
    refine wp_region_L mixed (none) (0) (Okr.none) [.eq (.int .i64 p.length),.eq (.slice ap p.length cp),.eq (.int .i64 p.length),.eq (.bool false),.eq (.bool false),.eq undef,.eq undef,.eq undef,.eq undef,.eq undef,.eq undef,.eq undef,.eq undef,.eq (.bool false)] [8,9,10,11,12,13,14,15,16,17,18,19,20,21] rfl rfl rfl rfl ⟨?_,?_,?_,?_,?_,?_,?_,?_,?_,?_,?_,?_,?_,?_,trivial⟩ ?_
    ·exact fun _ _ a _ _ _=>xM rfl (a 5 rfl)
    ·exact fun _ _ a _ _ _=>xM rfl (a 0 rfl)
    ·intro A w1 hA hL hS he;have h9:=eT 9 (he.1 rfl);exact pZ rfl
    ·intro A w1 hA hL hS he;have h8:=eT 8 (he.1 rfl);have h10:=eT 10 (he.2.1 rfl);exact pZ rfl
    ·exact fun _ _ _ _ _ e=>xM rfl (e.1 rfl)
    ·exact fun _ _ _ _ _ e=>nO false (e.1 rfl)
    ·exact fun _ _ _ _ _ e=>nO false (e.1 rfl)
    ·exact fun _ _ _ _ _ e=>nO false (e.2.2.1 rfl)
    ·exact fun _ _ _ _ _ e=>nO false (e.2.1 rfl)
    ·exact fun _ _ _ _ _ e=>nO false (e.2.1 rfl)
    ·exact fun _ _ _ _ _ e=>nO false (e.1 rfl)
    ·exact fun _ _ _ _ _ e=>nO false (e.2.1 rfl)
    ·exact fun _ _ _ _ _ e=>nO false (e.2.2.1 rfl)
    ·exact fun _ _ _ _ _ e=>goOn_plain rfl (stepG_pk rfl (e.1 rfl) rfl rfl)
    ·intro W2 hL2;simp only [TailL,FactL.eq,FactL.ret,lZ];go_frame;go_wp2;go_meet
     case rel=>exact⟨by rw [hgd],hL2.below⟩
  case rest =>
   obtain⟨rfl,hbc⟩:=hcut;replace hbr:=hbr.trans (hbc.mono hbr.size);replace BB:=BB.on hbc;replace hr:=hr.on hbr;clear hB hbc
   have hgt:g=true->k<p.length/\∀ t∈p.take (k+1),t.1.gt e=true:=fun h=>by
    rw [h] at hgd;split at hgd
    ·rename_i t ht;have hkl:=(List.getElem?_eq_some_iff.1 ht).1;refine⟨hkl,fun s hs=>?_⟩;rw [List.take_add_one,ht] at hs;rcases List.mem_append.1 hs with hs|hs
     ·exact hpre.out s hs
     ·simp at hs;subst hs;exact hgd.symm
    ·cases hgd
   have hgf:g=false->∀ t rest,p.drop k=t::rest->t.1.gt e=false:=fun h t rest hd=>by
    have ht:=(drop_cons' hd).2.1;rw [h,ht] at hgd;exact hgd.symm
   replace hgt:=zH hgt;replace hgf:=zH hgf;clear hgd;cases g
   ·have hins:=ins_skip (m:=(e,q)) (k:=k) (p:=p) hpre.out;replace hins:=zH hins;clear hpre hgt;have hP:=hp.on hbr;have hPt:=hP.take k hk;have hPd:=hp.drop k;change IsPoly w (.slice (if cp=k then ap else ap.map (·.add (k*8))) _ _) _ at hPd;have hsli:=fun W':World=>run_slice_high (P:=Tryz.prog) Tryz.underlying27 info37 W' ap p.length cp k .i64 (k:Int) rfl (by omega);have hslo:=fun W':World=>run_slice_low (P:=Tryz.prog) Tryz.underlying27 info37 W' ap p.length cp k .i64 (k:Int) rfl hk hcp;obtain⟨vr,hvr⟩:∃ vr:Value,vr=.slice (if cp=k then ap else ap.map (·.add (k*8))) (p.length - k) (cp - k):=⟨_,rfl⟩;rw [<- hvr] at hslo hPd;have hba:Below wc.heap.size wc (wc.alloc (.cells #[] monoT)):=(Below.refl _ _).alloc (Nat.le_refl _) _;have hlk:([]:List Trm).length+(p.take k).length<=1000000000:=by simp;omega
    have hPta:=hPt.on hba;have hmb:w.heap.size<wc.heap.size:=BB.lt;replace hvr:=zH hvr
    go_upto_region 5 with (first
    |(at_builtin;refine wpList_app rfl _ _ 27 rfl Tryz.underlying27 info_elTerm rfl rfl (own_lit0 elTerm wc) hPta hlk hba.size ?_;intro v6 w6 hown6 hl6 hv6))
    rw [List.nil_append] at hown6;have hb6:Below wc.heap.size wc w6:=hba.trans (hl6.belowAt hba.size (fun k hk=>by cases hk;exact Nat.le_refl _));have BB6:=BB.on hb6;have hP6:=hPd;replace hr:=hr.on hb6;replace hbr:=hbr.trans (hb6.mono hbr.size);clear hP hPt hPta hPd hl6 hv6 hba hlk BB hsli
    go_upto_region 6 with (fail)
    clear hslo;have hqs:∀ t∈p.drop k,Rs t.2:=fun t ht=>hkp.out t (List.mem_of_mem_drop ht);have hdl:(p.drop k).length<=p.length:=by simp
    generalize wc.heap.size=base at *;obtain⟨ar,cr,hsh,hcr⟩:=hP6.shape;subst hsh;generalize p.drop k=P at *;obtain⟨g2,hg2⟩:∃ g:Bool,g=(match P with|t::_=>decide (t.1=e)|[]=>false):=⟨_,rfl⟩
    go_cut [32,33,34,35,36,37,38,39,40,41,42,43] (fun _ _ _ _ _ _ _ _ _ _ _ v43 wc=>v43=.bool g2/\Below w6.heap.size w6 wc)
    case first =>
     cases P with
    |nil =>
      simp only [List.length_nil];refine wp_region_L mixed (none) (0) (Okr.none) [.eq (.slice ar 0 cr),.eq (.int .i64 0),.eq (.bool false),.eq (.bool false),.eq undef,.eq undef,.eq undef,.eq undef,.eq undef,.eq undef,.eq undef,.eq (.bool false)] [32,33,34,35,36,37,38,39,40,41,42,43] rfl rfl rfl rfl ⟨?_,?_,?_,?_,?_,?_,?_,?_,?_,?_,?_,?_,trivial⟩ ?_
      ·exact fun _ _ a _ _ _=>xM rfl (a 7 rfl)
      ·intro A w1 hA hL hS he;have h32:=eT 32 (he.1 rfl);exact pZ rfl
      ·intro A w1 hA hL hS he;have h33:=eT 33 (he.1 rfl);have hc0:=eC A (.int .i64 0);exact pZ rfl
      ·exact fun _ _ _ _ _ e=>xM rfl (e.1 rfl)
      ·exact fun _ _ _ _ _ e=>nO false (e.1 rfl)
      ·exact fun _ _ _ _ _ e=>nO false (e.2.1 rfl)
      ·exact fun _ _ _ _ _ e=>nO false (e.2.1 rfl)
      ·exact fun _ _ _ _ _ e=>nO false (e.2.1 rfl)
      ·exact fun _ _ _ _ _ e=>nO false (e.1 rfl)
      ·exact fun _ _ _ _ _ e=>nO false (e.2.1 rfl)
      ·exact fun _ _ _ _ _ e=>nO false (e.2.2.1 rfl)
      ·exact fun _ _ _ _ _ e=>goOn_plain rfl (stepG_pk rfl (e.1 rfl) rfl rfl)
      ·intro W2 hL2;simp only [TailL,FactL.eq,FactL.ret,lZ];go_frame;go_wp2;go_meet
       case rel=>exact⟨by rw [hg2],hL2.below⟩
    |cons t P2 =>
      obtain⟨bp,op,csp,rfl,-,hE,hC⟩:=hP6.get (j:=0) (t:=t) rfl;obtain⟨rt,rfl,hrt⟩:=hE;change Cells monoT w bp (op+0*8) _ at hC;simp only [List.length_cons] at hg2 ⊢;have heq:=fun W'=>eq_ex t.1 e W';refine wp_region_L mixed (none) (0) (Okr.none) [.eq (.slice (some ⟨bp,op,none⟩) (P2.length+1) cr),.eq (.int .i64 (P2.length+1:Nat)),.eq (.bool true),.eq (.bool true),.eq (.slice (some ⟨bp,op,none⟩) (P2.length+1) cr),.eq (.pointer (some ⟨bp,op+0*8,none⟩)),.eq (.pointer (some ⟨bp,op+0*8,none⟩)),.eq (.agg (exC t.1).toArray),.eq (.pointer (some ⟨w.heap.size,0,none⟩)),.eq (.agg (exC e).toArray),.eq (.bool (decide (t.1=e))),.eq (.bool (decide (t.1=e)))] [32,33,34,35,36,37,38,39,40,41,42,43] rfl rfl rfl rfl ⟨?_,?_,?_,?_,?_,?_,?_,?_,?_,?_,?_,?_,trivial⟩ ?_
      ·exact fun _ _ a _ _ _=>xM rfl (a 7 rfl)
      ·intro A w1 hA hL hS he;have h32:=eT 32 (he.1 rfl);exact pZ rfl
      ·intro A w1 hA hL hS he;have h33:=eT 33 (he.1 rfl);have hc0:=eC A (.int .i64 0);exact pZ rfl
      ·exact fun _ _ _ _ _ e=>xM rfl (e.1 rfl)
      ·exact fun _ _ a _ _ e=>yM (e.1 rfl) rfl (a 7 rfl)
      ·exact fun _ _ _ _ _ e=>goOn_yes rfl rfl (e.2.1 rfl) (xI rfl Tryz.underlying27 bp op 0 (by omega) (e.1 rfl) rfl)
      ·exact fun _ _ _ _ _ e=>goOn_yes rfl rfl (e.2.1 rfl) (xF0 rfl (e.1 rfl))
      ·exact fun _ _ _ hL _ e=>goOn_yes rfl rfl (e.2.1 rfl) (xL rfl (cells_ex (hC.on (hbr.trans (hL.below.mono hbr.size)))) Tryz.underlying36 (show (exC t.1).length=4 from rfl) (e.1 rfl))
      ·exact fun _ _ a _ _ e=>goOn_yes rfl rfl (e.1 rfl) (xF0 rfl (a 3 rfl))
      ·exact fun A w1 hA hL hS he=>goOn_yes rfl rfl (he.2.1 rfl) (xL rfl (blk_ex (BB6.on hL.below)) Tryz.underlying36 (show (exC e).length=4 from rfl) (he.1 rfl))
      ·intro A w1 hA hL hS he;have h35:=eT 35 (he.2.2.1 rfl);have h39:=eT 39 (he.1 rfl);have h41:=eT 41 (he.2.1 rfl);exact yZ h35 rfl
      ·exact fun _ _ _ _ _ e=>pK rfl (e.1 rfl) (e.2.1 rfl)
      ·intro W2 hL2;simp only [TailL,FactL.eq,FactL.ret,lZ];go_frame;go_wp2;go_meet
       case rel=>exact⟨by rw [hg2],hL2.below⟩
    case rest =>
     obtain⟨rfl,hbc⟩:=hcut;replace hbr:=hbr.trans (hbc.mono hbr.size);replace BB6:=BB6.on hbc;replace hown6:=hown6.on hbc;replace hr:=hr.on hbc;clear hbc;have hlt6:=BB6.lt;have hblk:=hown6.base_le
     go_upto_if 43 with (fail)
     go_cut [7] (fun v7 wc=>∃ (c:Rat) (r':List Value) (rest:List Trm),Hid (Blk wc w.heap.size monoT (exC e++r'))/\Hid (IsRatC wc r' c)/\Hid (IsPoly w v7 rest)/\Hid (OwnPoly base wc v6 (p.take k))/\Hid (RES=p.take k++insT (e,c) rest)/\Below w.heap.size w wc/\rest.length<=p.length)
     case first =>
      cases g2
      ·go_wp2;go_meet
       case rel =>
        refine⟨q,r,P,zH BB6,zH hr,zH hP6,zH hown6,zH ?_,hbr,hdl⟩;rw [hRES.out,hins.out]
        cases P with
       |nil=>rw [ins_nil']
       |cons t P2 =>
         have h1:=hgf.out rfl t P2 rfl;have h2:t.1≠e:=of_decide_eq_false hg2.symm;rw [ins_ne' h1 h2]
      ·obtain⟨t,P2,rfl⟩:∃ t P2,P=t::P2:=by
        cases P with
       |nil=>cases hg2
       |cons t P2=>exact⟨t,P2,rfl⟩
       have hte:t.1=e:=of_decide_eq_true hg2.symm;have hkt:Rs t.2:=hqs t (by simp);obtain⟨bp,op,csp,rfl,-,hE,hC⟩:=hP6.get (j:=0) (t:=t) rfl;obtain⟨rt,rfl,hrt⟩:=hE;change Cells monoT w bp (op+0*8) _ at hC;have hPb:=hP6.drop 1;rw [List.drop_succ_cons,List.drop_zero] at hPb;change IsPoly w (.slice (if cr=1 then some ⟨bp,op,none⟩ else (some ⟨bp,op,none⟩:Option Addr).map (·.add (1*8))) _ _) _ at hPb;simp only [List.length_cons] at hPb hcr hdl ⊢;have hl48:=hrt.len;clear hg2 hqs hgf;replace hte:=zH hte;replace hblk:=zH hblk;have hlow:=fun W':World=>run_slice_low (P:=Tryz.prog) Tryz.underlying27 info37 W' (some ⟨bp,op,none⟩) (P2.length+1) cr 1 .i64 (1:Int) rfl (by omega) hcr;obtain⟨vz,hvz⟩:∃ vz:Value,vz=.slice (if cr=1 then some ⟨bp,op,none⟩ else (some ⟨bp,op,none⟩:Option Addr).map (·.add (1*8))) (P2.length+1 - 1) (cr - 1):=⟨_,rfl⟩;rw [<- hvz] at hlow hPb;replace hvz:=zH hvz;replace hlow:=zH hlow
       go_upto_region 7 with (fail)
       refine wp_region_L mixed (none) (0) (Okr.none) [.eq (.pointer (some ⟨w.heap.size,0+4,none⟩)),.eq (.agg (r).toArray),.eq (.slice (some ⟨bp,op,none⟩) (P2.length+1) cr),.eq (.pointer (some ⟨bp,op+0*8,none⟩)),.eq (.pointer (some ⟨bp,op+0*8+4,none⟩)),.eq (.agg (rt).toArray),.rat (by decide) ((q+t.2)),.eq (.pointer (some ⟨w.heap.size,0+4,none⟩))] [44,45,46,47,48,49,50,51] rfl rfl rfl rfl ⟨?_,?_,?_,?_,?_,?_,?_,?_,trivial⟩ ?_
       ·exact fun _ _ a _ _ _=>goOn_plain rfl (xF1 rfl (a 3 rfl))
       ·exact fun _ _ _ hL _ e=>pL rfl (blk_rat (BB6.on hL.below)) Tryz.underlying41 (h4) (e.1 rfl)
       ·exact fun _ _ a _ _ _=>xM rfl (a 7 rfl)
       ·exact fun _ _ _ _ _ e=>pI rfl Tryz.underlying27 bp op 0 (by omega) (e.1 rfl) rfl
       ·exact fun _ _ _ _ _ e=>goOn_plain rfl (xF1 rfl (e.1 rfl))
       ·exact fun _ _ _ hL _ e=>pL rfl (cells_rat (hC.on (hbr.trans (hL.below.mono hbr.size)))) Tryz.underlying41 (hl48) (e.1 rfl)
       ·intro A w1 hA hL hS he;have hb:=hS rfl;have h45:=eT 45 (he.1 rfl);have h49:=eT 49 (he.2.1 rfl);have hf0:=eF A 81;exact cP (f:=81) (args:=#[.agg (r).toArray,.agg (rt).toArray]) (add2_any _ _ _ _ _ (hr.on hb).rat (hrt.on (hbr.trans (hb.mono hbr.size))).rat hkm hkt)
       ·exact fun _ _ a _ _ _=>goOn_plain rfl (xF1 rfl (a 3 rfl))
       ·intro W2 hL2;have hb2:=hL2.below;simp only [TailL,FactL.eq,FactL.rat,FactL.of,lZ];rintro v50 h50;obtain⟨n5,a5,k5,c5,n6,a6,k6,c6,rfl⟩:=rat_agg h50;go_frame;have C6:=BB6.on hb2;have hown2:=hown6.on hb2;have hbr2:=hbr.trans (hb2.mono hbr.size);have hcl:(exC e++r).length=8:=by rw [List.length_append,h4];rfl
        clear hL2 BB6 hown6 hbr
        go_upto_region 8 with (refine wpList_store_part rfl _ (.tmp 51) (.tmp 50) rfl w.heap.size (0+4) monoT _ _ rfl rfl C6 (by rw [hcl];simp) sizeRat isRat_ones ?_;intro W3 R3 hl3)
        have hR3:Blk W3 w.heap.size monoT (exC e++[.bool n5,.slice a5 k5 c5,.bool n6,.slice a6 k6 c6]):=by
         have e1:(exC e++r).take (0+4)=exC e:=rfl;have e2:(exC e++r).drop (0+4+4)=[]:=List.drop_of_length_le (by rw [hcl];omega);have:=R3;simp only [List.size_toArray,List.length_cons,List.length_nil] at this;rw [e1,e2,List.append_nil] at this;exact this
        have hne:v6.ownBlock≠some w.heap.size:=fun h=>by have:=(hblk.out _ h).1;omega
        replace hlow:=hlow.out;have hown3:=hown2.lr hl3 (elTerm_ok (by decide)) (.inr hne);have h503:=(h50.lr hl3 (by decide)).cellsC;have hbr3:=hbr2.trans (hl3.belowAt hbr2.size (fun k hk=>by cases hk;exact Nat.le_refl _));go_wp2;go_meet
        case rel =>
         refine⟨q+t.2,_,P2,zH hR3,zH h503,zH hPb,zH hown3,zH ?_,hbr3,by omega⟩;rw [hRES.out,hins.out,ins_eq' hte.out]
     case rest =>
      clear hg2 BB6 hP6 hown6 hr hbr hRES hins hblk;obtain⟨c,r',rest,hB,hr,hrest,hown,hres,hbr,hrl⟩:=hcut;have BB:=hB.out;have h4':=hr.out.len
      go_upto_region 9 with (fail)
      have hsg:=fun W (hb:Below wc.heap.size wc W)=>sign2_any _ _ W (hr.out.on hb).rat;obtain⟨g3,hg3⟩:∃ g:Bool,g=(if c≠0/\e.nat=true then true else false):=⟨_,rfl⟩
      go_cut [54,55,56,57,58,59,60,61,62] (fun _ _ _ _ _ _ _ _ v62 wd=>v62=.bool g3/\Below wc.heap.size wc wd)
      case first =>
       by_cases hc:c=0
       ·rw [if_neg (by simp [hc])] at hg3;rw [show sgnZ c.num=0 by rw [hc];rfl] at hsg;refine wp_region_S trivial (none) (0) (Okr.none) [.eq (.pointer (some ⟨w.heap.size,0+4,none⟩)),.eq (.agg (r').toArray),.ret (.int .i64 0),.eq (.bool false),.eq (.bool false),.eq undef,.eq undef,.eq undef,.eq (.bool false)] [54,55,56,57,58,59,60,61,62] rfl rfl rfl rfl ⟨?_,?_,?_,?_,?_,?_,?_,?_,?_,trivial⟩ ?_
        ·exact fun _ _ a _ _ _=>goOn_plain rfl (xF1 rfl (a 3 rfl))
        ·exact fun _ _ _ hL _ e=>pL rfl (blk_rat (BB.on hL.below)) Tryz.underlying41 (h4') (e.1 rfl)
        ·intro A w1 hA hL hS he;have hb:=hS rfl;have h55:=eT 55 (he.1 rfl);have hf0:=eF A 67;refine goOn_plain rfl ?_;refine stepG_call (f:=67) (args:=#[.agg (r').toArray]) rfl rfl ?_ ?_
         ·exact gZ
         ·refine (hsg _ hb).mono ?_;rintro e w' ⟨rfl,hb'⟩;exact⟨_,rfl,hb',rfl⟩
        ·intro A w1 hA hL hS he;have h56:=eT 56 (he.1 rfl);have hc0:=eC A (.int .i64 0);exact pZ rfl
        ·exact fun _ _ _ _ _ e=>xM rfl (e.1 rfl)
        ·exact fun _ _ _ _ _ e=>nO false (e.1 rfl)
        ·exact fun _ _ _ _ _ e=>nO false (e.2.1 rfl)
        ·exact fun _ _ _ _ _ e=>nO false (e.2.1 rfl)
        ·exact fun _ _ _ _ _ e=>goOn_plain rfl (stepG_pk rfl (e.1 rfl) rfl rfl)
        ·intro W2 hL2;simp only [TailL,FactL.eq,FactL.ret,lZ];go_frame;go_wp2;go_meet
         case rel=>exact⟨by rw [hg3],hL2.below⟩
       ·have hs0:=sgnZ_ne hc;generalize sgnZ c.num=sg at hs0 hsg;have hs1:(sg != 0)=true:=by simpa using hs0
        have hg4:g3=e.nat:=by rw [hg3];cases e.nat <;> simp [hc]
        refine wp_region_S trivial (none) (0) (Okr.none) [.eq (.pointer (some ⟨w.heap.size,0+4,none⟩)),.eq (.agg (r').toArray),.ret (.int .i64 sg),.eq (.bool true),.eq (.bool true),.eq (.pointer (some ⟨w.heap.size,0,none⟩)),.eq (.agg (exC e).toArray),.ret (.bool e.nat),.eq (.bool e.nat)] [54,55,56,57,58,59,60,61,62] rfl rfl rfl rfl ⟨?_,?_,?_,?_,?_,?_,?_,?_,?_,trivial⟩ ?_
        ·exact fun _ _ a _ _ _=>goOn_plain rfl (xF1 rfl (a 3 rfl))
        ·exact fun _ _ _ hL _ e=>pL rfl (blk_rat (BB.on hL.below)) Tryz.underlying41 (h4') (e.1 rfl)
        ·intro A w1 hA hL hS he;have hb:=hS rfl;have h55:=eT 55 (he.1 rfl);have hf0:=eF A 67;refine goOn_plain rfl ?_;refine stepG_call (f:=67) (args:=#[.agg (r').toArray]) rfl rfl ?_ ?_
         ·exact gZ
         ·refine (hsg _ hb).mono ?_;rintro e w' ⟨rfl,hb'⟩;exact⟨_,rfl,hb',rfl⟩
        ·intro A w1 hA hL hS he;have h56:=eT 56 (he.1 rfl);have hc0:=eC A (.int .i64 0);exact pZ rfl
        ·exact fun _ _ _ _ _ e=>xM rfl (e.1 rfl)
        ·exact fun _ _ a _ _ e=>goOn_yes rfl rfl (e.1 rfl) (xF0 rfl (a 3 rfl))
        ·exact fun A w1 hA hL hS he=>goOn_yes rfl rfl (he.2.1 rfl) (xL rfl (blk_ex (BB.on hL.below)) Tryz.underlying36 (show (exC e).length=4 from rfl) (he.1 rfl))
        ·intro A w1 hA hL hS he;have hb:=hS rfl;have h58:=eT 58 (he.2.1 rfl);have h60:=eT 60 (he.1 rfl);have hf0:=eF A 65;refine goOn_yes rfl rfl h58 ?_;refine stepG_call (f:=65) (args:=#[.agg (exC e).toArray]) rfl rfl ?_ ?_
         ·exact gZ
         ·refine (natural7_any e _).mono ?_;rintro e w' ⟨rfl,hb'⟩;exact⟨_,rfl,hb',rfl⟩
        ·exact fun _ _ _ _ _ e=>pK rfl (e.1 rfl) (e.2.1 rfl)
        ·intro W2 hL2;simp only [TailL,FactL.eq,FactL.ret,lZ];go_frame;go_wp2;go_meet
         case rel=>exact⟨by rw [hg4],hL2.below⟩
      case rest =>
       obtain⟨rfl,hbc⟩:=hcut;clear hsg;replace BB:=BB.on hbc;replace hr:=hr.out.on hbc;replace hrest:=hrest.out;replace hown:=hown.out.on hbc;replace hbr:=hbr.trans (hbc.mono hbr.size);clear hbc hB;have hbase:∀ k,v6.ownBlock=some k->w.heap.size<=k:=fun k hk=>by have:=(hown.base_le k hk).1;omega
       have hbl:base<=wc.heap.size\/v6.ownBlock=none:=by
        cases hv:v6.ownBlock with
       |none=>exact .inr rfl
       |some k=>have:=hown.base_le k hv;exact .inl (by omega)
       have htl:(p.take k).length<=p.length:=by simp;omega
       have hne':some w.heap.size≠v6.ownBlock:=fun h=>by have:=(hown.base_le _ h.symm).1;omega
       cases g3
       ·have hi:insT (e,c) rest=rest:=by
         unfold insT;split
         ·rename_i h;rw [if_pos h] at hg3;cases hg3
         ·rfl
        rw [hi] at hres;clear hi hg3;have hrw:=hrest.on hbr;have hlen:(p.take k).length+rest.length<=1000000000:=by omega
        go_wp2_with (at_builtin;refine wpList_app rfl _ _ 27 rfl Tryz.underlying27 info_elTerm rfl rfl (hown.rebase) hrw hlen (Nat.zero_le _) ?_;intro v8 w8 hown8 hl8 hv8)
        go_ret;exact⟨_,rfl,by rw [hres.out];exact hown8.isSl,hbr.trans (hl8.belowAt hbr.size hbase)⟩
       ·have hi:insT (e,c) rest=(e,c)::rest:=by
         unfold insT;split
         ·rfl
         ·rename_i h;rw [if_neg h] at hg3;cases hg3
        rw [hi] at hres;clear hi hg3;have h8:(exC e++r').length=8:=by rw [List.length_append,h4'];rfl
        have hown0:=hown.rebase
        go_upto_region 10 with (fail)
        refine wp_region_S trivial (v6.ownBlock) (monoT) (hown.okr) [.eq (v6),.eq (.agg (exC e++r').toArray),.new1 elTerm elTerm_okT ((e,c)),.row elTerm (0) wc.heap.size (p.take k++[(e,c)])] [63,64,65,66] rfl rfl rfl rfl ⟨?_,?_,?_,?_,trivial⟩ ?_
        ·exact fun _ _ a _ _ _=>xM rfl (a 6 rfl)
        ·exact fun _ _ a hL _ _=>pL rfl ((BB.lr hL hne').cells.range) Tryz.underlying43 (h8) (a 3 rfl)
        ·intro A w1 hA hL hS he;have h64:=eT 64 (he.1 rfl);refine goOn_plain rfl ?_;have hE:(elTerm:El _).E w1 _ ((e,c)):=⟨_,rfl,hr.lr hL (by decide)⟩;refine stepG_new1 rfl rfl ((hown.okr).lr hL) hE (execOp_buildSlice rfl ?_) (fun _ _ h=>h);simp only [List.map_toArray,List.map_cons,List.map_nil,h64];exact run_new1_elTermP _ _ ((elTerm).len hE)
        ·intro A w1 hA hL hS he;have hb:=hS rfl;have h63:=eT 63 (he.1 rfl);obtain⟨v65,h65,f65⟩:=fT 65 (he.2.1 rfl);exact goOn_plain rfl (stepG_append rfl rfl rfl Tryz.underlying27 info_elTerm h63 h65 (hown0.on hb) rfl rfl (isSl_of_new f65) (by simp only [List.length_cons,List.length_nil];omega) (Nat.zero_le _) hL.1.size (fun _ _ h1 h2=>⟨h1,h2⟩))
        ·intro W6 hL6;simp only [TailL,FactL.eq,FactL.new1,FactL.row,FactL.asPure,FactL.of,FactL.fragile,lZ];rintro v65 - v66 ⟨hown6,hnew⟩;go_frame;have hbW6:=hbr.trans (hL6.belowAt hbr.size hbase);have hrw:=hrest.on hbW6;have hlen:(p.take k++[(e,c)]).length+rest.length<=1000000000:=by simp only [List.length_append,List.length_cons,List.length_nil];omega
         have hwd:w.heap.size<=wc.heap.size:=hbr.size
         have hbase6:∀ k,v66.ownBlock=some k->w.heap.size<=k:=fun k hk=>by
          rcases hnew with h|⟨k',h,hk'⟩
          ·exact hbase k (by rw [<- h];exact hk)
          ·rw [h] at hk;cases hk;omega
         go_wp2_with (at_builtin;refine wpList_app rfl _ _ 27 rfl Tryz.underlying27 info_elTerm rfl rfl hown6 hrw hlen (Nat.zero_le _) ?_;intro v8 w8 hown8 hl8 hv8)
         go_ret;exact⟨_,rfl,by rw [hres.out];simpa using hown8.isSl,hbW6.trans (hl8.belowAt hbW6.size hbase6)⟩
   ·obtain⟨hkl,hpre'⟩:=hgt.out rfl;clear hgf;go_wp2;go_roundw
    case rel=>exact⟨k+1,by omega,by go_num,zH hpre',hbr,zH BB⟩
    case measure=>simp [intOf];omega
end Go.Proofs.YtopclbeomcggiaaGreat
end
section
namespace Q
theorem rabs_int (k:Int):rabs (k:Rat)=(k.natAbs:Rat):=by
 unfold rabs;rcases Int.lt_or_le k 0 with h|h
 ·rw [if_pos (by rw [show (0:Rat)=((0:Int):Rat) from rfl];exact Rat.intCast_lt_intCast.2 h)];rw [<- Rat.intCast_neg,<- Rat.intCast_natCast];congr 1;omega
 ·rw [if_neg (by rw [show (0:Rat)=((0:Int):Rat) from rfl];intro h';have:=Rat.intCast_lt_intCast.1 h';omega)];rw [<- Rat.intCast_natCast];congr 1;omega
theorem canon_snoc {l:List Trm} {k:Nat} {t:Trm} (h:l[k]?=some t):canon (l.take (k+1))=ins (canon (l.take k)) t:=by
 rw [List.take_add_one,h];simp [canon]
end Q
namespace Go.Proofs.YtopclbeomcggiaaGreat
open Go.RowKit Q
theorem dv_parts {D B:Nat} {c:Rat} (hD:0<D) (h:Dv D c) (hB:rabs c<=(B:Rat)):c.den∣D/\c.num.natAbs<=B*D:=by
 obtain⟨k,hk⟩:=h
 have hD0:(D:Rat)≠0:=by
  intro h;have:D=0:=Rat.natCast_inj.1 (by rw [h];rfl);omega
 have hc:c=Rat.divInt k D:=by
  rw [Rat.divInt_eq_div,Rat.intCast_natCast,<- hk];grind
 obtain⟨e1,e2⟩:=divInt_pos k D (by omega);rw [<- hc] at e1 e2
 have hden:c.den∣D:=by
  refine Int.natCast_dvd_natCast.1 ⟨(Int.gcd k D:Int),?_⟩;rw [e2];exact (Int.ediv_mul_cancel (Int.gcd_dvd_right _ _)).symm
 refine⟨hden,?_⟩;have h1:rabs c*(D:Rat)<=(B:Rat)*(D:Rat):=Rat.mul_le_mul_of_nonneg_right hB Rat.natCast_nonneg;have h2:rabs c*(D:Rat)=rabs (k:Rat):=by rw [<- hk,rabs_mul,rabs_of_pos (c:=(D:Rat)) Rat.natCast_nonneg]
 rw [h2,rabs_int,<- Rat.natCast_mul] at h1;have h3:k.natAbs<=B*D:=Rat.natCast_le_natCast.1 h1;have h4:c.num.natAbs<=k.natAbs:=by rw [e1];exact Int.natAbs_ediv_le_natAbs _ _
 omega
theorem mul_pow_lt {B D a b:Nat} (h:B<2 ^ a) (h':D<2 ^ b):B*D<2 ^ (a+b):=by rw [Nat.pow_add];exact Nat.mul_lt_mul'' h h'
theorem rs_of_dv {s:Sz} {c:Rat} (hs:s.ok) (h:Dv s.D c) (hB:rabs c<=(s.B:Rat)):Rs c:=by
 obtain⟨h1,h2⟩:=dv_parts hs.1 h hB;have hd:=Nat.le_of_dvd hs.1 h1;obtain⟨p1,p2,p3,p4,p5⟩:=hs;refine⟨by omega,?_⟩;have:=nbits_le (Nat.lt_of_le_of_lt h2 (mul_pow_lt (a:=1000) (b:=16) p3 (show s.D<2 ^ 16 from p2)));omega
end Go.Proofs.YtopclbeomcggiaaGreat
namespace Q
open Go Go.RowKit Q Go.Proofs.YtopclbeomcggiaaGreat
def Sz.okw (s:Sz):Prop:=0<s.D/\nbits s.D<=CAP / 32/\nbits s.B<=CAP / 32/\s.E<1000000/\s.N<=100000000
theorem Sz.ok.w {s:Sz} (h:s.ok):s.okw:=by
 obtain⟨h1,h2,h3,h4,h5⟩:=h;exact⟨h1,Nat.le_trans (den_bits h2) (by unfold CAP;omega),Nat.le_trans (nbits_le h3) (by unfold CAP;omega),h4,by omega⟩
theorem rk_of_dv {s:Sz} {c:Rat} (hs:s.okw) (h:Dv s.D c) (hB:rabs c<=(s.B:Rat)):Rk c:=by
 obtain⟨h1,h2⟩:=dv_parts hs.1 h hB;have hd:=Nat.le_of_dvd hs.1 h1;obtain⟨p1,p2,p3,p4,p5⟩:=hs;refine⟨Nat.le_trans (nbits_mono hd) (Nat.le_trans p2 (by unfold CAP;omega)),?_⟩;have h3:=nbits_mono h2;have h4:=nbits_mul s.B s.D;unfold CAP at *;omega
theorem Bd.rs {s:Sz} {l:List Trm} (h:Bd s l) (hs:s.ok):∀ t∈l,Rs t.2:=fun t ht=>rs_of_dv hs (h.d t ht) (Rat.le_trans (asum_mem ht) h.b)
end Q
namespace Go.Proofs.YtopclbeomcggiaaGreat
open Go.RowKit Q
end Go.Proofs.YtopclbeomcggiaaGreat
namespace Q
open Go Go.RowKit Q Go.Proofs.YtopclbeomcggiaaGreat
theorem Bd.inRw {s:Sz} {l:List Trm} (h:Bd s l) (hs:s.okw):∀ t∈l,InR t.1:=fun t ht=>InR.of (K:=s.E) (by have:=hs.2.2.2.1;omega) (h.e t ht)
theorem Bd.inR {s:Sz} {l:List Trm} (h:Bd s l) (hs:s.ok):∀ t∈l,InR t.1:=h.inRw hs.w
end Q
namespace Go.Proofs.YtopclbeomcggiaaGreat
open Go.RowKit Q
end Go.Proofs.YtopclbeomcggiaaGreat
namespace Q
open Go Go.RowKit Q Go.Proofs.YtopclbeomcggiaaGreat
theorem Bd.len {s:Sz} {l:List Trm} (h:Bd s l) (hs:s.ok):l.length<=100000000:=by have:=h.n;have:=hs.2.2.2.2;omega
end Q
namespace Go.Proofs.YtopclbeomcggiaaGreat
open Go.RowKit Q
end Go.Proofs.YtopclbeomcggiaaGreat
namespace Q
open Go Go.RowKit Q Go.Proofs.YtopclbeomcggiaaGreat
theorem Bd.take {s:Sz} {l:List Trm} (h:Bd s l) (k:Nat):Bd s (l.take k):=h.sub (List.take_sublist _ _)
end Q
namespace Go.Proofs.YtopclbeomcggiaaGreat
open Go.RowKit Q
theorem bd_cf_dv {s:Sz}:∀ {l:List Trm},(∀ t∈l,Dv s.D t.2)->∀ e,Dv s.D (cf l e)/\rabs (cf l e)<=asum l
|[],_,e=>⟨by rw [cf_nil];exact Dv.zero _,by rw [cf_nil];simp only [asum,rabs];split <;> grind⟩
|t::l,h,e=>by
  obtain⟨h1,h2⟩:=bd_cf_dv (s:=s) (l:=l) (fun t ht=>h t (by simp [ht])) e;rw [cf_cons];have h3:=h t (by simp);have h4:=rabs_nonneg t.2;split
  ·refine⟨h3.add h1,?_⟩;have:=rabs_add t.2 (cf l e);simp only [asum];grind
  ·have e0:0+cf l e=cf l e:=by grind
   rw [e0];refine⟨h1,?_⟩;simp only [asum];grind
end Go.Proofs.YtopclbeomcggiaaGreat
namespace Q
open Go Go.RowKit Q Go.Proofs.YtopclbeomcggiaaGreat
theorem Bd.rkw {s:Sz} {l:List Trm} (h:Bd s l) (hs:s.okw):∀ t∈l,Rk t.2:=fun t ht=>rk_of_dv hs (h.d t ht) (Rat.le_trans (asum_mem ht) h.b)
theorem Bd.oklw {s:Sz} {l:List Trm} (h:Bd s l) (hs:s.okw):Okl l where
 n:=Nat.le_trans h.n hs.2.2.2.2
 r:=fun t ht=>⟨h.inRw hs t ht,h.rkw hs t ht⟩
 c:=fun k e=>by
  obtain⟨h1,h2⟩:=bd_cf_dv (s:=s) (h.take k).d e;exact rk_of_dv hs h1 (Rat.le_trans h2 (h.take k).b)
end Q
namespace Go.Proofs.YtopclbeomcggiaaGreat
open Go.RowKit Q
theorem make7_any (v:Value) (l:List Trm) (s:Sz) (w:World) (h:IsPoly w v l) (hb:Bd s l) (hs:s.ok):Calls Tryz.prog 43 #[v] w (RetPoly w (canon l)):=by
 obtain⟨ap,cp,rfl,hcp⟩:=h.shape;have hlen:=hb.len hs;have hrs:=zH (hb.rs hs);have hck:=zH (fun k=>(hb.take k).canon.rs hs);have hcl:=zH (fun k=>(hb.take k).canon.len hs);clear hb
 go_enter Tryz.func43,Tryz.ntmps43
 go_wp2;have hb0:Below w.heap.size w (w.alloc (.cells #[] monoT)):=(Below.refl _ _).alloc (Nat.le_refl _) _;have hst:IsPoly (w.alloc (.cells #[] monoT)) (.slice (some ⟨w.heap.size,0,none⟩) 0 0) []:=(own_lit0 elTerm w).isSl;change Below w.heap.size w (w.alloc (.cells #[] 43)) at hb0;change IsPoly (w.alloc (.cells #[] 43)) _ _ at hst
 go_loopw [3,4] (fun o i wr=>∃ k:Nat,k<=l.length/\i=.int .i64 k/\Hid (IsPoly wr o (canon (l.take k)))/\Below w.heap.size w wr) (fun _ i _=>l.length-(intOf i).toNat)
 case atStart=>exact⟨0,by omega,rfl,zH hst,hb0⟩
 case round =>
  clear hst hb0;obtain⟨k,hk,rfl,hP,hbr⟩:=hrel;by_cases hkl:k<l.length
  ·have hjq:l[k]?=some l[k]:=List.getElem?_eq_getElem hkl;generalize l[k]=t at hjq;obtain⟨bp,op,csp,rfl,-,hE,hC⟩:=(h.on hbr).get hjq;change Cells monoT wr bp (op+k*8) _ at hC;have hkl':(k:Int)<l.length:=by omega
   have hr:=hC.range;have h8:csp.length=8:=elTerm.len hE;have hin:=insert_any u3 (canon (l.take k)) csp t wr hP.out hE (hck.out k) (hrs.out t (List.mem_of_getElem? hjq)) (hcl.out k);rw [<- canon_snoc hjq] at hin
   go_wp2_with (first
   |(refine wpList_index_at rfl _ _ 26 rfl monoT Tryz.underlying26 _ 8 96 (by kernel_rfl) _ _ _ rfl .i64 _ rfl k rfl hkl bp op rfl ?_)
   |(refine wpList_load_mid rfl 43 _ rfl _ _ rfl _ _ hr Tryz.underlying43 rfl (by rw [h8];kernel_rfl) ?_)
   |(go_at_call 82;refine hin.mono ?_;rintro en w3 ⟨v3,rfl,hv3,hb3⟩))
   go_roundw
   case rel=>exact⟨k+1,by omega,by go_num,zH hv3,hbr.trans (hb3.mono hbr.size)⟩
   case measure=>simp [intOf];omega
  ·obtain rfl:k=l.length:=by omega
   rw [List.take_of_length_le (Nat.le_refl _)] at hP;go_wp2;go_ret;exact⟨_,rfl,hP.out,hbr⟩
end Go.Proofs.YtopclbeomcggiaaGreat
end
section
namespace Go.Proofs.YtopclbeomcggiaaGreat
open Go.RowKit Q Go.WideMaps Go.Maps
theorem var7_any (v:Nat) (w:World) (hv:v<4):Calls Tryz.prog 37 #[.int .i64 v] w (RetPoly w (varP v)):=by
 have hw:=fun W=>whole2_any 1 W (by omega) (by omega);obtain rfl|rfl|rfl|rfl:v=0\/v=1\/v=2\/v=3:=by omega
 ·go_enter Tryz.func37,Tryz.ntmps37
  go_upto_region 2 with (go_at_call 24;refine (hw _).mono ?_;rintro e w1 ⟨v1,rfl,hv1,hb1⟩;obtain⟨n,a,k,c,n',a',k',c',rfl⟩:=rat_agg hv1)
  refine abs1 fun W hb2 B hsz=>?_;have z:=B.at1 0 _ rfl;have hf:=B.frozen 0
  go_upto_region 3 with (fail)
  have B':=B.set 0 (.int .i64 1);have hb3:Below w1.heap.size W (W.setCell ⟨w1.heap.size,0,none⟩ (.int .i64 1)):=setCell_below (Nat.le_refl _) _;generalize W.setCell ⟨w1.heap.size,0,none⟩ (.int .i64 1)=W3 at *;have hv3:=(hv1.on hb2);have hb13:=hb2.trans hb3;have z1:=B'.at1 0 _ rfl;have z2:=B'.at1 1 _ rfl;have z3:=B'.at1 2 _ rfl;have z4:=B'.at1 3 _ rfl;have y1:=B'.at1 4 _ rfl;have y2:=B'.at1 5 _ rfl;have y3:=B'.at1 6 _ rfl;have y4:=B'.at1 7 _ rfl;clear z hf;go_wp2;go_ret;have hba:Below W3.heap.size W3 (W3.alloc (.cells #[.int .i64 1,.int .i64 0,.int .i64 0,.int .i64 0,.bool n,.slice a k c,.bool n',.slice a' k' c'] monoT)):=(Below.refl _ _).alloc (Nat.le_refl _) _;have hb1a:=hb13.trans (hba.mono hb13.size);exact⟨_,rfl,isSl_new1 (t:=(unitE 0,1)) (Blk.new W3 monoT [.int .i64 1,.int .i64 0,.int .i64 0,.int .i64 0,.bool n,.slice a k c,.bool n',.slice a' k' c']) ⟨[.bool n,.slice a k c,.bool n',.slice a' k' c'],rfl,(hv1.on hb1a).cellsC⟩,hb1.trans (hb1a.mono hb1.size)⟩
 ·go_enter Tryz.func37,Tryz.ntmps37
  go_upto_region 2 with (go_at_call 24;refine (hw _).mono ?_;rintro e w1 ⟨v1,rfl,hv1,hb1⟩;obtain⟨n,a,k,c,n',a',k',c',rfl⟩:=rat_agg hv1)
  refine abs1 fun W hb2 B hsz=>?_;have z:=B.at1 1 _ rfl;have hf:=B.frozen 1
  go_upto_region 3 with (fail)
  have B':=B.set 1 (.int .i64 1);have hb3:Below w1.heap.size W (W.setCell ⟨w1.heap.size,1,none⟩ (.int .i64 1)):=setCell_below (Nat.le_refl _) _;generalize W.setCell ⟨w1.heap.size,1,none⟩ (.int .i64 1)=W3 at *;have hv3:=(hv1.on hb2);have hb13:=hb2.trans hb3;have z1:=B'.at1 0 _ rfl;have z2:=B'.at1 1 _ rfl;have z3:=B'.at1 2 _ rfl;have z4:=B'.at1 3 _ rfl;have y1:=B'.at1 4 _ rfl;have y2:=B'.at1 5 _ rfl;have y3:=B'.at1 6 _ rfl;have y4:=B'.at1 7 _ rfl;clear z hf;go_wp2;go_ret;have hba:Below W3.heap.size W3 (W3.alloc (.cells #[.int .i64 0,.int .i64 1,.int .i64 0,.int .i64 0,.bool n,.slice a k c,.bool n',.slice a' k' c'] monoT)):=(Below.refl _ _).alloc (Nat.le_refl _) _;have hb1a:=hb13.trans (hba.mono hb13.size);exact⟨_,rfl,isSl_new1 (t:=(unitE 1,1)) (Blk.new W3 monoT [.int .i64 0,.int .i64 1,.int .i64 0,.int .i64 0,.bool n,.slice a k c,.bool n',.slice a' k' c']) ⟨[.bool n,.slice a k c,.bool n',.slice a' k' c'],rfl,(hv1.on hb1a).cellsC⟩,hb1.trans (hb1a.mono hb1.size)⟩
 ·go_enter Tryz.func37,Tryz.ntmps37
  go_upto_region 2 with (go_at_call 24;refine (hw _).mono ?_;rintro e w1 ⟨v1,rfl,hv1,hb1⟩;obtain⟨n,a,k,c,n',a',k',c',rfl⟩:=rat_agg hv1)
  refine abs1 fun W hb2 B hsz=>?_;have z:=B.at1 2 _ rfl;have hf:=B.frozen 2
  go_upto_region 3 with (fail)
  have B':=B.set 2 (.int .i64 1);have hb3:Below w1.heap.size W (W.setCell ⟨w1.heap.size,2,none⟩ (.int .i64 1)):=setCell_below (Nat.le_refl _) _;generalize W.setCell ⟨w1.heap.size,2,none⟩ (.int .i64 1)=W3 at *;have hv3:=(hv1.on hb2);have hb13:=hb2.trans hb3;have z1:=B'.at1 0 _ rfl;have z2:=B'.at1 1 _ rfl;have z3:=B'.at1 2 _ rfl;have z4:=B'.at1 3 _ rfl;have y1:=B'.at1 4 _ rfl;have y2:=B'.at1 5 _ rfl;have y3:=B'.at1 6 _ rfl;have y4:=B'.at1 7 _ rfl;clear z hf;go_wp2;go_ret;have hba:Below W3.heap.size W3 (W3.alloc (.cells #[.int .i64 0,.int .i64 0,.int .i64 1,.int .i64 0,.bool n,.slice a k c,.bool n',.slice a' k' c'] monoT)):=(Below.refl _ _).alloc (Nat.le_refl _) _;have hb1a:=hb13.trans (hba.mono hb13.size);exact⟨_,rfl,isSl_new1 (t:=(unitE 2,1)) (Blk.new W3 monoT [.int .i64 0,.int .i64 0,.int .i64 1,.int .i64 0,.bool n,.slice a k c,.bool n',.slice a' k' c']) ⟨[.bool n,.slice a k c,.bool n',.slice a' k' c'],rfl,(hv1.on hb1a).cellsC⟩,hb1.trans (hb1a.mono hb1.size)⟩
 ·go_enter Tryz.func37,Tryz.ntmps37
  go_upto_region 2 with (go_at_call 24;refine (hw _).mono ?_;rintro e w1 ⟨v1,rfl,hv1,hb1⟩;obtain⟨n,a,k,c,n',a',k',c',rfl⟩:=rat_agg hv1)
  refine abs1 fun W hb2 B hsz=>?_;have z:=B.at1 3 _ rfl;have hf:=B.frozen 3
  go_upto_region 3 with (fail)
  have B':=B.set 3 (.int .i64 1);have hb3:Below w1.heap.size W (W.setCell ⟨w1.heap.size,3,none⟩ (.int .i64 1)):=setCell_below (Nat.le_refl _) _;generalize W.setCell ⟨w1.heap.size,3,none⟩ (.int .i64 1)=W3 at *;have hv3:=(hv1.on hb2);have hb13:=hb2.trans hb3;have z1:=B'.at1 0 _ rfl;have z2:=B'.at1 1 _ rfl;have z3:=B'.at1 2 _ rfl;have z4:=B'.at1 3 _ rfl;have y1:=B'.at1 4 _ rfl;have y2:=B'.at1 5 _ rfl;have y3:=B'.at1 6 _ rfl;have y4:=B'.at1 7 _ rfl;clear z hf;go_wp2;go_ret;have hba:Below W3.heap.size W3 (W3.alloc (.cells #[.int .i64 0,.int .i64 0,.int .i64 0,.int .i64 1,.bool n,.slice a k c,.bool n',.slice a' k' c'] monoT)):=(Below.refl _ _).alloc (Nat.le_refl _) _;have hb1a:=hb13.trans (hba.mono hb13.size);exact⟨_,rfl,isSl_new1 (t:=(unitE 3,1)) (Blk.new W3 monoT [.int .i64 0,.int .i64 0,.int .i64 0,.int .i64 1,.bool n,.slice a k c,.bool n',.slice a' k' c']) ⟨[.bool n,.slice a k c,.bool n',.slice a' k' c'],rfl,(hv1.on hb1a).cellsC⟩,hb1.trans (hb1a.mono hb1.size)⟩
theorem canon_one (c:Rat):canon [(e0,c)]=constP c:=by
 show ins [] (e0,c)=_;unfold ins constP;by_cases h:c=0
 ·rw [if_pos h,if_neg (by simp [h])]
 ·rw [if_neg h,if_pos ⟨h,rfl⟩]
theorem const7_any (v:Value) (c:Rat) (s:Sz) (w:World) (h:IsRat w v c) (hb:Bd s [(e0,c)]) (hs:s.ok):Calls Tryz.prog 72 #[v] w (RetPoly w (constP c)):=by
 obtain⟨n,a,k,q,n',a',k',q',rfl⟩:=rat_agg h;have hmk:=fun W v hv=>make7_any v [(e0,c)] s W hv hb hs;rw [canon_one] at hmk;clear hb hs
 go_enter Tryz.func72,Tryz.ntmps72
 go_upto_region 1 with (fail)
 refine abs1 fun W hb B hsz=>?_;have y1:=B.at1 0 _ rfl;have y2:=B.at1 1 _ rfl;have y3:=B.at1 2 _ rfl;have y4:=B.at1 3 _ rfl;have hba:Below W.heap.size W (W.alloc (.cells #[.int .i64 0,.int .i64 0,.int .i64 0,.int .i64 0,.bool n,.slice a k q,.bool n',.slice a' k' q'] monoT)):=(Below.refl _ _).alloc (Nat.le_refl _) _
 have hsl:IsPoly (W.alloc (.cells #[.int .i64 0,.int .i64 0,.int .i64 0,.int .i64 0,.bool n,.slice a k q,.bool n',.slice a' k' q'] monoT)) (.slice (some ⟨W.heap.size,0,none⟩) 1 1) [(e0,c)] :=
  isSl_new1 (t:=(e0,c)) (Blk.new W monoT [.int .i64 0,.int .i64 0,.int .i64 0,.int .i64 0,.bool n,.slice a k q,.bool n',.slice a' k' q']) ⟨[.bool n,.slice a k q,.bool n',.slice a' k' q'],rfl,((h.on hb).on hba).cellsC⟩
 go_wp2_with (go_at_call 43;refine (hmk _ _ hsl).mono ?_;rintro e w4 ⟨v4,rfl,hv4,hb4⟩)
 go_ret;exact⟨_,rfl,hv4,hb.trans ((hba.trans (hb4.mono hba.size)).mono hb.size)⟩
theorem eq_at {p q:List Trm} (hl:p.length=q.length) (h:∀ j:Nat,j<p.length->p[j]?=q[j]?):p=q:=by
 apply List.ext_getElem? ;intro j;by_cases hj:j<p.length
 ·exact h j hj
 ·rw [List.getElem?_eq_none (by omega),List.getElem?_eq_none (by omega)]
theorem equal7_any (vp vq:Value) (p q:List Trm) (w:World) (hp:IsPoly w vp p) (hq:IsPoly w vq q) (rp:∀ t∈p,Rk t.2) (rq:∀ t∈q,Rk t.2) (lp:p.length<=100000000) :
  Calls Tryz.prog 45 #[vp,vq] w (Ret w (.bool (decide (p=q)))):=by
 obtain⟨ap,cp,rfl,hcp⟩:=hp.shape;obtain⟨aq,cq,rfl,hcq⟩:=hq.shape;obtain⟨R,hR⟩:∃ R,R=decide (p=q):=⟨_,rfl⟩;rw [<- hR];replace hR:=zH hR;by_cases hl:p.length=q.length
 ·have hne:((p.length:Int) != q.length)=false:=by simp [hl]
  replace rp:=zH rp;replace rq:=zH rq;replace hl:=zH hl
  go_enter Tryz.func45,Tryz.ntmps45
  go_wp2
  go_loopw [5] (fun i wr=>∃ k:Nat,k<=p.length/\i=.int .i64 k/\Hid (∀ j:Nat,j<k->p[j]?=q[j]?)/\Below w.heap.size w wr) (fun i _=>p.length-(intOf i).toNat)
  case atStart=>exact⟨0,by omega,rfl,zH (fun j h=>by omega),Below.refl _ _⟩
  case round =>
   obtain⟨k,hk,rfl,heq,hbr⟩:=hrel;by_cases hkl:k<p.length
   ·have hj1:p[k]?=some p[k]:=List.getElem?_eq_getElem hkl;have hkq:k<q.length:=by have:=hl.out;omega
    have hj2:q[k]?=some q[k]:=List.getElem?_eq_getElem hkq;generalize p[k]=s at hj1;generalize q[k]=t at hj2;obtain⟨b1,o1,cs1,rfl,-,hE1,hC1⟩:=hp.get hj1;obtain⟨b2,o2,cs2,rfl,-,hE2,hC2⟩:=hq.get hj2;obtain⟨r1,rfl,hr1⟩:=hE1;obtain⟨r2,rfl,hr2⟩:=hE2;change Cells monoT w b1 (o1+k*8) _ at hC1;change Cells monoT w b2 (o2+k*8) _ at hC2;have hks:=rp.out s (List.mem_of_getElem? hj1);have hkt:=rq.out t (List.mem_of_getElem? hj2);have hkl':(k:Int)<p.length:=by omega
    have hl1:=hr1.len;have hl2:=hr2.len;have hex:=fun W'=>eq_ex s.1 t.1 W'
    have hstep:s=t->Hid (∀ j:Nat,j<k+1->p[j]?=q[j]?):=fun h j hj=>by
     rcases Nat.lt_or_ge j k with h'|h'
     ·exact heq.out j h'
     ·obtain rfl:j=k:=by omega
      rw [hj1,hj2,h]
    have hstop:s≠t->Hid (R=false):=fun h=>by
     rw [hR.out,decide_eq_false_iff_not];intro hpq;rw [hpq,hj2] at hj1;exact h (Option.some.inj hj1.symm)
    clear hj1 hj2 heq
    go_upto_region 6 with (fail)
    by_cases he:s.1=t.1
    ·have hd:decide (s.1=t.1)=true:=by simpa using he
     rw [hd] at hex;replace he:=zH he;by_cases hc:s.2=t.2
     ·have hst:=hstep (Prod.ext he.out hc);have hdc:decide (s.2=t.2)=true:=by simpa using hc
      clear hstep hstop hd hc;refine wp_region_L mixed (none) (0) (Okr.none) [.eq (.slice (some ⟨b1,o1,none⟩) p.length cp),.eq (.int .i64 k),.eq (.pointer (some ⟨b1,o1+k*8,none⟩)),.eq (.pointer (some ⟨b1,o1+k*8,none⟩)),.eq (.agg (exC s.1).toArray),.eq (.slice (some ⟨b2,o2,none⟩) q.length cq),.eq (.int .i64 k),.eq (.pointer (some ⟨b2,o2+k*8,none⟩)),.eq (.pointer (some ⟨b2,o2+k*8,none⟩)),.eq (.agg (exC t.1).toArray),.eq (.bool false),.eq (.bool false),.eq (.slice (some ⟨b1,o1,none⟩) p.length cp),.eq (.int .i64 k),.eq (.pointer (some ⟨b1,o1+k*8,none⟩)),.eq (.pointer (some ⟨b1,o1+k*8+4,none⟩)),.eq (.agg (r1).toArray),.eq (.slice (some ⟨b2,o2,none⟩) q.length cq),.eq (.int .i64 k),.eq (.pointer (some ⟨b2,o2+k*8,none⟩)),.eq (.pointer (some ⟨b2,o2+k*8+4,none⟩)),.eq (.agg (r2).toArray),.ret (.bool true),.eq (.bool false),.eq (.bool false)] [17,18,19,20,21,22,23,24,25,26,27,28,29,30,31,32,33,34,35,36,37,38,39,40,41] rfl rfl rfl rfl ⟨?_,?_,?_,?_,?_,?_,?_,?_,?_,?_,?_,?_,?_,?_,?_,?_,?_,?_,?_,?_,?_,?_,?_,?_,?_,trivial⟩ ?_
      ·exact fun _ _ a _ _ _=>xM rfl (a 0 rfl)
      ·exact fun _ _ a _ _ _=>xM rfl (a 5 rfl)
      ·exact fun _ _ _ _ _ e=>pI rfl Tryz.underlying27 b1 o1 k (hkl) (e.1 rfl) (e.2.1 rfl)
      ·exact fun _ _ _ _ _ e=>goOn_plain rfl (xF0 rfl (e.1 rfl))
      ·exact fun _ _ _ hL _ e=>pL rfl (cells_ex (hC1.on (hbr.trans (hL.below.mono hbr.size)))) Tryz.underlying36 (show (exC s.1).length=4 from rfl) (e.1 rfl)
      ·exact fun _ _ a _ _ _=>xM rfl (a 1 rfl)
      ·exact fun _ _ a _ _ _=>xM rfl (a 5 rfl)
      ·exact fun _ _ _ _ _ e=>pI rfl Tryz.underlying27 b2 o2 k (hkq) (e.1 rfl) (e.2.1 rfl)
      ·exact fun _ _ _ _ _ e=>goOn_plain rfl (xF0 rfl (e.1 rfl))
      ·exact fun _ _ _ hL _ e=>pL rfl (cells_ex (hC2.on (hbr.trans (hL.below.mono hbr.size)))) Tryz.underlying36 (show (exC t.1).length=4 from rfl) (e.1 rfl)
      ·intro A w1 hA hL hS he;have h21:=eT 21 (he.1 rfl);have h26:=eT 26 (he.2.1 rfl);exact pZ rfl
      ·exact fun _ _ _ _ _ e=>xM rfl (e.1 rfl)
      ·exact fun _ _ a _ _ e=>yM (e.1 rfl) rfl (a 0 rfl)
      ·exact fun _ _ a _ _ e=>yM (e.1 rfl) rfl (a 5 rfl)
      ·exact fun _ _ _ _ _ e=>goOn_yes rfl rfl (e.2.2.1 rfl) (xI rfl Tryz.underlying27 b1 o1 k (hkl) (e.1 rfl) (e.2.1 rfl))
      ·exact fun _ _ _ _ _ e=>goOn_yes rfl rfl (e.2.1 rfl) (xF1 rfl (e.1 rfl))
      ·exact fun _ _ _ hL _ e=>goOn_yes rfl rfl (e.2.1 rfl) (xL rfl (cells_rat (hC1.on (hbr.trans (hL.below.mono hbr.size)))) Tryz.underlying41 (hl1) (e.1 rfl))
      ·exact fun _ _ a _ _ e=>yM (e.1 rfl) rfl (a 1 rfl)
      ·exact fun _ _ a _ _ e=>yM (e.1 rfl) rfl (a 5 rfl)
      ·exact fun _ _ _ _ _ e=>goOn_yes rfl rfl (e.2.2.1 rfl) (xI rfl Tryz.underlying27 b2 o2 k (hkq) (e.1 rfl) (e.2.1 rfl))
      ·exact fun _ _ _ _ _ e=>goOn_yes rfl rfl (e.2.1 rfl) (xF1 rfl (e.1 rfl))
      ·exact fun _ _ _ hL _ e=>goOn_yes rfl rfl (e.2.1 rfl) (xL rfl (cells_rat (hC2.on (hbr.trans (hL.below.mono hbr.size)))) Tryz.underlying41 (hl2) (e.1 rfl))
      ·intro A w1 hA hL hS he;have hb:=hS rfl;have h28:=eT 28 (he.2.2.1 rfl);have h33:=eT 33 (he.1 rfl);have h38:=eT 38 (he.2.1 rfl);have hf0:=eF A 23;refine goOn_yes rfl rfl h28 ?_;refine stepG_call (f:=23) (args:=#[.agg (r1).toArray,.agg (r2).toArray]) rfl rfl ?_ ?_
       ·exact gZ
       ·refine (hdc ▸ same2_any _ _ _ _ _ (hr1.on (hbr.trans (hb.mono hbr.size))).rat (hr2.on (hbr.trans (hb.mono hbr.size))).rat hks hkt).mono ?_;rintro e w' ⟨rfl,hb'⟩;exact⟨_,rfl,hb',rfl⟩
      ·intro A w1 hA hL hS he;have h28:=eT 28 (he.2.1 rfl);have h39:=eT 39 (he.1 rfl);exact yZ h28 rfl
      ·exact fun _ _ _ _ _ e=>pK rfl (e.1 rfl) (e.2.1 rfl)
      ·intro W2 hL2;simp only [TailL,FactL.eq,FactL.ret,lZ];go_frame;clear hex;go_wp2;go_roundw
       case rel=>exact⟨k+1,by omega,by go_num,hst,hbr.trans (hL2.below.mono hbr.size)⟩
       case measure=>simp [intOf];omega
     ·have hst:=hstop (fun h=>hc (by rw [h]));have hdc:decide (s.2=t.2)=false:=by simpa using hc
      clear hstep hstop hd hc;refine wp_region_L mixed (none) (0) (Okr.none) [.eq (.slice (some ⟨b1,o1,none⟩) p.length cp),.eq (.int .i64 k),.eq (.pointer (some ⟨b1,o1+k*8,none⟩)),.eq (.pointer (some ⟨b1,o1+k*8,none⟩)),.eq (.agg (exC s.1).toArray),.eq (.slice (some ⟨b2,o2,none⟩) q.length cq),.eq (.int .i64 k),.eq (.pointer (some ⟨b2,o2+k*8,none⟩)),.eq (.pointer (some ⟨b2,o2+k*8,none⟩)),.eq (.agg (exC t.1).toArray),.eq (.bool false),.eq (.bool false),.eq (.slice (some ⟨b1,o1,none⟩) p.length cp),.eq (.int .i64 k),.eq (.pointer (some ⟨b1,o1+k*8,none⟩)),.eq (.pointer (some ⟨b1,o1+k*8+4,none⟩)),.eq (.agg (r1).toArray),.eq (.slice (some ⟨b2,o2,none⟩) q.length cq),.eq (.int .i64 k),.eq (.pointer (some ⟨b2,o2+k*8,none⟩)),.eq (.pointer (some ⟨b2,o2+k*8+4,none⟩)),.eq (.agg (r2).toArray),.ret (.bool false),.eq (.bool true),.eq (.bool true)] [17,18,19,20,21,22,23,24,25,26,27,28,29,30,31,32,33,34,35,36,37,38,39,40,41] rfl rfl rfl rfl ⟨?_,?_,?_,?_,?_,?_,?_,?_,?_,?_,?_,?_,?_,?_,?_,?_,?_,?_,?_,?_,?_,?_,?_,?_,?_,trivial⟩ ?_
      ·exact fun _ _ a _ _ _=>xM rfl (a 0 rfl)
      ·exact fun _ _ a _ _ _=>xM rfl (a 5 rfl)
      ·exact fun _ _ _ _ _ e=>pI rfl Tryz.underlying27 b1 o1 k (hkl) (e.1 rfl) (e.2.1 rfl)
      ·exact fun _ _ _ _ _ e=>goOn_plain rfl (xF0 rfl (e.1 rfl))
      ·exact fun _ _ _ hL _ e=>pL rfl (cells_ex (hC1.on (hbr.trans (hL.below.mono hbr.size)))) Tryz.underlying36 (show (exC s.1).length=4 from rfl) (e.1 rfl)
      ·exact fun _ _ a _ _ _=>xM rfl (a 1 rfl)
      ·exact fun _ _ a _ _ _=>xM rfl (a 5 rfl)
      ·exact fun _ _ _ _ _ e=>pI rfl Tryz.underlying27 b2 o2 k (hkq) (e.1 rfl) (e.2.1 rfl)
      ·exact fun _ _ _ _ _ e=>goOn_plain rfl (xF0 rfl (e.1 rfl))
      ·exact fun _ _ _ hL _ e=>pL rfl (cells_ex (hC2.on (hbr.trans (hL.below.mono hbr.size)))) Tryz.underlying36 (show (exC t.1).length=4 from rfl) (e.1 rfl)
      ·intro A w1 hA hL hS he;have h21:=eT 21 (he.1 rfl);have h26:=eT 26 (he.2.1 rfl);exact pZ rfl
      ·exact fun _ _ _ _ _ e=>xM rfl (e.1 rfl)
      ·exact fun _ _ a _ _ e=>yM (e.1 rfl) rfl (a 0 rfl)
      ·exact fun _ _ a _ _ e=>yM (e.1 rfl) rfl (a 5 rfl)
      ·exact fun _ _ _ _ _ e=>goOn_yes rfl rfl (e.2.2.1 rfl) (xI rfl Tryz.underlying27 b1 o1 k (hkl) (e.1 rfl) (e.2.1 rfl))
      ·exact fun _ _ _ _ _ e=>goOn_yes rfl rfl (e.2.1 rfl) (xF1 rfl (e.1 rfl))
      ·exact fun _ _ _ hL _ e=>goOn_yes rfl rfl (e.2.1 rfl) (xL rfl (cells_rat (hC1.on (hbr.trans (hL.below.mono hbr.size)))) Tryz.underlying41 (hl1) (e.1 rfl))
      ·exact fun _ _ a _ _ e=>yM (e.1 rfl) rfl (a 1 rfl)
      ·exact fun _ _ a _ _ e=>yM (e.1 rfl) rfl (a 5 rfl)
      ·exact fun _ _ _ _ _ e=>goOn_yes rfl rfl (e.2.2.1 rfl) (xI rfl Tryz.underlying27 b2 o2 k (hkq) (e.1 rfl) (e.2.1 rfl))
      ·exact fun _ _ _ _ _ e=>goOn_yes rfl rfl (e.2.1 rfl) (xF1 rfl (e.1 rfl))
      ·exact fun _ _ _ hL _ e=>goOn_yes rfl rfl (e.2.1 rfl) (xL rfl (cells_rat (hC2.on (hbr.trans (hL.below.mono hbr.size)))) Tryz.underlying41 (hl2) (e.1 rfl))
      ·intro A w1 hA hL hS he;have hb:=hS rfl;have h28:=eT 28 (he.2.2.1 rfl);have h33:=eT 33 (he.1 rfl);have h38:=eT 38 (he.2.1 rfl);have hf0:=eF A 23;refine goOn_yes rfl rfl h28 ?_;refine stepG_call (f:=23) (args:=#[.agg (r1).toArray,.agg (r2).toArray]) rfl rfl ?_ ?_
       ·exact gZ
       ·refine (hdc ▸ same2_any _ _ _ _ _ (hr1.on (hbr.trans (hb.mono hbr.size))).rat (hr2.on (hbr.trans (hb.mono hbr.size))).rat hks hkt).mono ?_;rintro e w' ⟨rfl,hb'⟩;exact⟨_,rfl,hb',rfl⟩
      ·intro A w1 hA hL hS he;have h28:=eT 28 (he.2.1 rfl);have h39:=eT 39 (he.1 rfl);exact yZ h28 rfl
      ·exact fun _ _ _ _ _ e=>pK rfl (e.1 rfl) (e.2.1 rfl)
      ·intro W2 hL2;simp only [TailL,FactL.eq,FactL.ret,lZ];go_frame;clear hex;go_wp2;go_ret;exact⟨by rw [hst.out] <;> rfl,hbr.trans (hL2.below.mono hbr.size)⟩
    ·have hst:=hstop (fun h=>he (by rw [h]));have hd:decide (s.1=t.1)=false:=by simpa using he
     rw [hd] at hex;clear hstep hstop hd he;refine wp_region_L mixed (none) (0) (Okr.none) [.eq (.slice (some ⟨b1,o1,none⟩) p.length cp),.eq (.int .i64 k),.eq (.pointer (some ⟨b1,o1+k*8,none⟩)),.eq (.pointer (some ⟨b1,o1+k*8,none⟩)),.eq (.agg (exC s.1).toArray),.eq (.slice (some ⟨b2,o2,none⟩) q.length cq),.eq (.int .i64 k),.eq (.pointer (some ⟨b2,o2+k*8,none⟩)),.eq (.pointer (some ⟨b2,o2+k*8,none⟩)),.eq (.agg (exC t.1).toArray),.eq (.bool true),.eq (.bool true),.eq undef,.eq undef,.eq undef,.eq undef,.eq undef,.eq undef,.eq undef,.eq undef,.eq undef,.eq undef,.eq undef,.eq undef,.eq (.bool true)] [17,18,19,20,21,22,23,24,25,26,27,28,29,30,31,32,33,34,35,36,37,38,39,40,41] rfl rfl rfl rfl ⟨?_,?_,?_,?_,?_,?_,?_,?_,?_,?_,?_,?_,?_,?_,?_,?_,?_,?_,?_,?_,?_,?_,?_,?_,?_,trivial⟩ ?_
     ·exact fun _ _ a _ _ _=>xM rfl (a 0 rfl)
     ·exact fun _ _ a _ _ _=>xM rfl (a 5 rfl)
     ·exact fun _ _ _ _ _ e=>pI rfl Tryz.underlying27 b1 o1 k (hkl) (e.1 rfl) (e.2.1 rfl)
     ·exact fun _ _ _ _ _ e=>goOn_plain rfl (xF0 rfl (e.1 rfl))
     ·exact fun _ _ _ hL _ e=>pL rfl (cells_ex (hC1.on (hbr.trans (hL.below.mono hbr.size)))) Tryz.underlying36 (show (exC s.1).length=4 from rfl) (e.1 rfl)
     ·exact fun _ _ a _ _ _=>xM rfl (a 1 rfl)
     ·exact fun _ _ a _ _ _=>xM rfl (a 5 rfl)
     ·exact fun _ _ _ _ _ e=>pI rfl Tryz.underlying27 b2 o2 k (hkq) (e.1 rfl) (e.2.1 rfl)
     ·exact fun _ _ _ _ _ e=>goOn_plain rfl (xF0 rfl (e.1 rfl))
     ·exact fun _ _ _ hL _ e=>pL rfl (cells_ex (hC2.on (hbr.trans (hL.below.mono hbr.size)))) Tryz.underlying36 (show (exC t.1).length=4 from rfl) (e.1 rfl)
     ·intro A w1 hA hL hS he;have h21:=eT 21 (he.1 rfl);have h26:=eT 26 (he.2.1 rfl);exact pZ rfl
     ·exact fun _ _ _ _ _ e=>xM rfl (e.1 rfl)
     ·exact fun _ _ _ _ _ e=>nO true (e.1 rfl)
     ·exact fun _ _ _ _ _ e=>nO true (e.1 rfl)
     ·exact fun _ _ _ _ _ e=>nO true (e.2.2.1 rfl)
     ·exact fun _ _ _ _ _ e=>nO true (e.2.1 rfl)
     ·exact fun _ _ _ _ _ e=>nO true (e.2.1 rfl)
     ·exact fun _ _ _ _ _ e=>nO true (e.1 rfl)
     ·exact fun _ _ _ _ _ e=>nO true (e.1 rfl)
     ·exact fun _ _ _ _ _ e=>nO true (e.2.2.1 rfl)
     ·exact fun _ _ _ _ _ e=>nO true (e.2.1 rfl)
     ·exact fun _ _ _ _ _ e=>nO true (e.2.1 rfl)
     ·exact fun _ _ _ _ _ e=>nO true (e.2.2.1 rfl)
     ·exact fun _ _ _ _ _ e=>nO true (e.2.1 rfl)
     ·exact fun _ _ _ _ _ e=>goOn_plain rfl (stepG_pk rfl (e.1 rfl) rfl rfl)
     ·intro W2 hL2;simp only [TailL,FactL.eq,FactL.ret,lZ];go_frame;clear hex;go_wp2;go_ret;exact⟨by rw [hst.out] <;> rfl,hbr.trans (hL2.below.mono hbr.size)⟩
   ·have hst:Hid (R=true):=by
     have:=eq_at hl.out (fun j hj=>heq.out j (by omega));exact zH (by rw [hR.out];simpa using this)
    go_wp2;go_ret;exact⟨by rw [hst.out] <;> rfl,hbr⟩
 ·have hne:((p.length:Int) != q.length)=true:=by simp;omega
  have hst:Hid (R=false):=zH (by rw [hR.out,decide_eq_false_iff_not];intro h;exact hl (by rw [h]));clear hl
  go_enter Tryz.func45,Tryz.ntmps45
  go_wp2;go_ret;exact⟨by rw [hst.out] <;> rfl,Below.refl _ _⟩
theorem same7_any (vp vq:Value) (p q:List Trm) (w:World) (hp:IsPoly w vp p) (hq:IsPoly w vq q) (rp:∀ t∈p,Rk t.2) (rq:∀ t∈q,Rk t.2) (lp:p.length<=100000000) :
  Calls Tryz.prog 13 #[vp,vq] w (Ret w (.bool (decide (p=q)))):=by
 have hc:=fun W (hb:Below w.heap.size w W)=>equal7_any vp vq p q W (hp.on hb) (hq.on hb) rp rq lp;generalize decide (p=q)=R at *
 go_enter Tryz.func13,Tryz.ntmps13
 go_wp2_with (go_at_call 45;refine (hc _ (Below.refl _ _)).mono ?_;rintro e w1 ⟨rfl,hb1⟩)
 go_ret;exact⟨rfl,hb1⟩
end Go.Proofs.YtopclbeomcggiaaGreat
end
section
namespace Go.Proofs.YtopclbeomcggiaaGreat
open Go.RowKit Q
def RetTerm (w:World) (t:Trm) (e:Ending) (w':World):Prop:=∃ cs,e=.returned (.agg cs.toArray)/\IsTerm w' cs t/\Below w.heap.size w w'
end Go.Proofs.YtopclbeomcggiaaGreat
end
section
namespace Q
open Go Go.RowKit Go.Proofs.YtopclbeomcggiaaGreat
def FactL.term {g:Option Nat} {T:TypeId} (hT:uT≠T) (t:Trm):FactL (Lr g T):=FactL.of (fun v w=>∃ cs:List Value,v=.agg cs.toArray/\IsTerm w cs t) (fun _ _ _ hb=>fun⟨cs,e,h⟩=>⟨cs,e,elTerm.lr h hb hT⟩)
end Q
namespace Go.Proofs.YtopclbeomcggiaaGreat
open Go.RowKit Q
end Go.Proofs.YtopclbeomcggiaaGreat
end
section
namespace Q
theorem map_snoc {α β:Type} {l:List α} {k:Nat} {t:α} (f:α->β) (h:l[k]?=some t):(l.take (k+1)).map f=(l.take k).map f++[f t]:=by
 rw [List.take_add_one,h];simp
end Q
namespace Go.Proofs.YtopclbeomcggiaaGreat
open Go.RowKit Q
theorem cell_term {w:World} {ap:Option Addr} {cp:Nat} {p:List Trm} {i:Nat} {s:Trm} (hp:IsPoly w (.slice ap p.length cp) p) (h:p[i]?=some s) :
  ∃ b o r,ap=some ⟨b,o,none⟩/\IsRatC w r s.2/\Cells monoT w b (o+i*8) (exC s.1++r):=by
 obtain⟨b,o,cs,rfl,-,hE,hC⟩:=hp.get h;obtain⟨r,rfl,hr⟩:=hE;exact⟨b,o,r,rfl,hr,hC⟩
end Go.Proofs.YtopclbeomcggiaaGreat
end
section
namespace Go.Proofs.YtopclbeomcggiaaGreat
open Go.RowKit Q Go.WideMaps Go.Maps
end Go.Proofs.YtopclbeomcggiaaGreat
end
