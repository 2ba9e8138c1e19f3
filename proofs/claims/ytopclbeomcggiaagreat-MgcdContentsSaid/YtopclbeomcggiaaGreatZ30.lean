/- Validity: the reference's and the program's. -/
import Derived.Test.YtopclbeomcggiaaGreatZ28
set_option linter.unusedVariables false
set_option linter.unusedSimpArgs false
set_option maxHeartbeats 16000000
set_option maxRecDepth 100000
namespace Q
def xD (l:List ai) (i:Nat):Bool:=match l[i]? with
 | none=>true
 | some t=>t.1.nat&&decide (t.2≠0)&&(match i with|0=>true|j+1=>match l[j]? with|none=>true|some s=>s.1.gt t.1)
def IC (l:List ai):Bool:=(List.range l.length).all (xD l)
theorem KP{l:List ai}:IC l=true↔∀i,i<l.length->xD l i=true:=by unfold IC;rw[List.all_eq_true];simp only[List.mem_range]
theorem sI{l:List ai}:IC l=true↔aY l:=by
 rw[KP];constructor
 ·intro h;refine⟨List.pairwise_iff_getElem.2 λi j b p e=>?_,λt n=>?_⟩
  ·obtain⟨d,rfl⟩:∃d,j=i+1+d:=⟨j - (i+1),oM⟩;clear e
   induction d with
   | zero =>
    have:=h (i+1) oM;simp only[xD,gE (oM:i+1<l.length),gE b,Bool.and_eq_true]at this;exact this.2
   | succ d o =>
    have m:=o oM;have:=h (i+1+d+1) oM;simp only[xD,gE (oM:i+1+d+1<l.length),gE (oM:i+1+d<l.length),Bool.and_eq_true]at this;exact Ex.gt_trans m this.2
  ·obtain⟨i,b⟩:=List.mem_iff_getElem?.1 n;have k:=(gS.1 b).1;have:=h i k;simp only[xD,b,Bool.and_eq_true,decide_eq_true_eq]at this;exact⟨this.1.2,this.1.1⟩
 ·intro hv i b;have hm:=hv.2 l[i] (List.getElem_mem b);simp only[xD,gE b,Bool.and_eq_true,decide_eq_true_eq];refine⟨⟨hm.2,hm.1⟩,?_⟩
  cases i with
  | zero=>rfl
  | succ j =>
   simp only[gE (oM:j<l.length)];exact List.pairwise_iff_getElem.1 hv.1 j (j+1) oM b oM
end Q
namespace Go.Proofs.YtopclbeomcggiaaGreat
open Go.RowKit Q Go.WideMaps Go.Maps
theorem Nk(v:Value)(l:List ai)(w:World)(h:aj w v l)(hr:∀t∈l,Rs t.2)(Y:l.length<=100000000):Calls Tryz.prog 22 #[v] w (oP w (.bool (IC l))):=by
 obtain⟨ap,cp,rfl,J⟩:=h.shape;have q:=KP (l:=l);generalize IC l=R at *;replace q:=zH q;replace hr:=zH hr
 go_enter Tryz.func22,Tryz.ntmps22
 go_wp2
 go_loopw [3] (λi wr=>∃k:Nat,k<=l.length/\i=.int .i64 k/\Hid (∀j,j<k->xD l j=true)/\Below w.heap.size w wr) (λi _=>l.length-(intOf i).toNat)
 case atStart=>exact⟨0,oM,rfl,zH (λj h=>oM),Below.refl _ _⟩
 case round =>
  obtain⟨k,X,rfl,p,b⟩:=hrel;by_cases d:k<l.length
  ·have n:l[k]?=some l[k]:=gE d;generalize l[k]=t at n;obtain⟨b1,o1,cs1,rfl,-,hE1,hC⟩:=h.get n;obtain⟨r1,rfl,hr1⟩:=hE1;change bW aR w b1 (o1+k*8) _ at hC;have y:=hr.out t (List.mem_of_getElem? n);have I:(k:Int)<l.length:=oM;have hl1:=hr1.len;have x:=λW (hb:Below w.heap.size w W)=>wE _ _ W (hr1.on hb).rat
   have m:xD l k=false->Hid (R=false):=λhf=>by
    cases hR:R
    ·exact zH rfl
    ·have:=(q.out.1 hR) k d;rw[hf]at this;cases this
   have bN:xD l k=true->Hid (∀j,j<k+1->xD l j=true):=λN j S=>by
    rcases Nat.lt_or_ge j k with h'|h'
    ·exact p.out j h'
    ·obtain rfl:j=k:=oM;exact N
   go_upto_region 4 with (fail)
   by_cases z:t.1.nat=true
   ·have u:=z;by_cases hc:t.2=0
    ·have o:=m (by simp[xD,n,hc]);rw[show jg t.2.num=0 by rw[hc];rfl]at x;clear bN m p n z;refine aD mixed (none) (0) (eQ.none) [.eq (.slice (some ⟨b1,o1,none⟩) l.length cp),.eq (.int .i64 k),.eq (.pointer (some ⟨b1,o1+k*8,none⟩)),.eq (.pointer (some ⟨b1,o1+k*8,none⟩)),.eq (.agg (bI t.1).toArray),.ret (.bool true),.eq (.bool false),.eq (.bool false),.eq (.slice (some ⟨b1,o1,none⟩) l.length cp),.eq (.int .i64 k),.eq (.pointer (some ⟨b1,o1+k*8,none⟩)),.eq (.pointer (some ⟨b1,o1+k*8+4,none⟩)),.eq (.agg (r1).toArray),.ret (.bool true),.eq (.bool false),.eq (.bool false),.eq (.bool false),.eq (.slice (some ⟨b1,o1,none⟩) l.length cp),.eq (.int .i64 k),.eq (.pointer (some ⟨b1,o1+k*8,none⟩)),.eq (.pointer (some ⟨b1,o1+k*8+4,none⟩)),.eq (.agg (r1).toArray),.ret (.int .i64 0),.eq (.bool true),.eq (.bool true),.eq (.bool true),.eq undef,.eq undef,.eq undef,.eq undef,.eq undef,.eq undef,.eq undef,.eq undef,.eq undef,.eq undef,.eq undef,.eq undef,.eq undef,.eq undef,.eq undef,.eq undef,.eq undef,.eq (.bool true)] [10,11,12,13,14,15,16,17,18,19,20,21,22,23,24,25,26,27,28,29,30,31,32,33,34,35,36,37,38,39,40,41,42,43,44,45,46,47,48,49,50,51,52,53] rfl rfl rfl rfl ⟨?_,?_,?_,?_,?_,?_,?_,?_,?_,?_,?_,?_,?_,?_,?_,?_,?_,?_,?_,?_,?_,?_,?_,?_,?_,?_,?_,?_,?_,?_,?_,?_,?_,?_,?_,?_,?_,?_,?_,?_,?_,?_,?_,?_,trivial⟩ ?_
     ·exact λ_ _ a _ _ _=>xM rfl (a 0 rfl)
     ·exact λ_ _ a _ _ _=>xM rfl (a 3 rfl)
     ·exact λ_ _ _ _ _ e=>pI rfl Tryz.underlying27 b1 o1 k (d) (e.1 rfl) (e.2.1 rfl)
     ·exact λ_ _ _ _ _ e=>af rfl (uf rfl (e.1 rfl))
     ·exact λ_ _ _ hL _ e=>pL rfl (dG (hC.on (b.trans (hL.below.mono b.size)))) Tryz.underlying36 (show(bI t.1).length=4 from rfl) (e.1 rfl)
     ·intro A w1 hA hL hS he;have hb:=hS rfl;have h14:=eT 14 (he.1 rfl);have hf0:=eF A 65;exact cP (f:=65) (args:=#[.agg (bI t.1).toArray]) (u▸jP t.1 _)
     ·intro A w1 hA hL hS he;have h15:=eT 15 (he.1 rfl);exact pZ rfl
     ·exact λ_ _ _ _ _ e=>xM rfl (e.1 rfl)
     ·exact λ_ _ a _ _ e=>yM (e.1 rfl) rfl (a 0 rfl)
     ·exact λ_ _ a _ _ e=>yM (e.1 rfl) rfl (a 3 rfl)
     ·exact λ_ _ _ _ _ e=>aF rfl rfl (e.2.2.1 rfl) (xI rfl Tryz.underlying27 b1 o1 k (d) (e.1 rfl) (e.2.1 rfl))
     ·exact λ_ _ _ _ _ e=>aF rfl rfl (e.2.1 rfl) (zI rfl (e.1 rfl))
     ·exact λ_ _ _ hL _ e=>aF rfl rfl (e.2.1 rfl) (xL rfl (dW (hC.on (b.trans (hL.below.mono b.size)))) Tryz.underlying41 (hl1) (e.1 rfl))
     ·intro A w1 hA hL hS he;have hb:=hS rfl;have h17:=eT 17 (he.2.1 rfl);have h22:=eT 22 (he.1 rfl);have hf0:=eF A 66;exact cY (f:=66) (args:=#[.agg (r1).toArray]) h17 (uk _ _ _ (hr1.on (b.trans (hb.mono b.size))).rat y)
     ·intro A w1 hA hL hS he;have h17:=eT 17 (he.2.1 rfl);have h23:=eT 23 (he.1 rfl);exact yZ h17 rfl
     ·exact λ_ _ _ _ _ e=>pK rfl (e.1 rfl) (e.2.1 rfl)
     ·exact λ_ _ _ _ _ e=>xM rfl (e.1 rfl)
     ·exact λ_ _ a _ _ e=>yM (e.1 rfl) rfl (a 0 rfl)
     ·exact λ_ _ a _ _ e=>yM (e.1 rfl) rfl (a 3 rfl)
     ·exact λ_ _ _ _ _ e=>aF rfl rfl (e.2.2.1 rfl) (xI rfl Tryz.underlying27 b1 o1 k (d) (e.1 rfl) (e.2.1 rfl))
     ·exact λ_ _ _ _ _ e=>aF rfl rfl (e.2.1 rfl) (zI rfl (e.1 rfl))
     ·exact λ_ _ _ hL _ e=>aF rfl rfl (e.2.1 rfl) (xL rfl (dW (hC.on (b.trans (hL.below.mono b.size)))) Tryz.underlying41 (hl1) (e.1 rfl))
     ·intro A w1 hA hL hS he;have hb:=hS rfl;have h26:=eT 26 (he.2.1 rfl);have h31:=eT 31 (he.1 rfl);have hf0:=eF A 67;exact cY (f:=67) (args:=#[.agg (r1).toArray]) h26 (x _ (b.trans (hb.mono b.size)))
     ·intro A w1 hA hL hS he;have h26:=eT 26 (he.2.1 rfl);have h32:=eT 32 (he.1 rfl);have hc0:=eC A (.int .i64 0);exact yZ h26 rfl
     ·exact λ_ _ _ _ _ e=>pK rfl (e.1 rfl) (e.2.1 rfl)
     ·exact λ_ _ _ _ _ e=>xM rfl (e.1 rfl)
     ·exact λ_ _ _ _ _ e=>nO true (e.1 rfl)
     ·exact λ_ _ _ _ _ e=>nO true (e.2.1 rfl)
     ·exact λ_ _ _ _ _ e=>nO true (e.2.1 rfl)
     ·exact λ_ _ _ _ _ e=>aZ rfl rfl (e.1 rfl) rfl
     ·exact λ_ _ _ _ _ e=>aZ rfl rfl (e.1 rfl) rfl
     ·exact λ_ _ _ _ _ e=>aZ rfl rfl (e.2.1 rfl) rfl
     ·exact λ_ _ _ _ _ e=>aZ rfl rfl (e.2.2.1 rfl) rfl
     ·exact λ_ _ _ _ _ e=>aZ rfl rfl (e.2.1 rfl) rfl
     ·exact λ_ _ _ _ _ e=>aZ rfl rfl (e.2.1 rfl) rfl
     ·exact λ_ _ _ _ _ e=>aZ rfl rfl (e.1 rfl) rfl
     ·exact λ_ _ _ _ _ e=>aZ rfl rfl (e.1 rfl) rfl
     ·exact λ_ _ _ _ _ e=>aZ rfl rfl (e.2.2.1 rfl) rfl
     ·exact λ_ _ _ _ _ e=>aZ rfl rfl (e.2.1 rfl) rfl
     ·exact λ_ _ _ _ _ e=>aZ rfl rfl (e.2.1 rfl) rfl
     ·exact λ_ _ _ _ _ e=>aZ rfl rfl (e.2.2.1 rfl) rfl
     ·exact λ_ _ _ _ _ e=>aZ rfl rfl (e.2.1 rfl) rfl
     ·exact λ_ _ _ _ _ e=>nO true (e.2.2.1 rfl)
     ·exact λ_ _ _ _ _ e=>af rfl (fM rfl (e.1 rfl) rfl rfl)
     ·intro W2 hL2;simp only[aQ,ae.eq,ae.ret,lZ];go_frame;go_wp2;go_ret;exact⟨by rw[o.out]<;>rfl,b.trans (hL2.below.mono b.size)⟩
    ·have hs0:=rA hc;generalize jg t.2.num=sg at hs0 x;have hs1:(sg==0)=false:=by simpa using hs0
     cases k with
     | zero =>
      have o:=bN (by simp[xD,n,hc,z]);clear bN m p n z hc;simp only[Nat.zero_add]at o;refine aD mixed (none) (0) (eQ.none) [.eq (.slice (some ⟨b1,o1,none⟩) l.length cp),.eq (.int .i64 0),.eq (.pointer (some ⟨b1,o1+0*8,none⟩)),.eq (.pointer (some ⟨b1,o1+0*8,none⟩)),.eq (.agg (bI t.1).toArray),.ret (.bool true),.eq (.bool false),.eq (.bool false),.eq (.slice (some ⟨b1,o1,none⟩) l.length cp),.eq (.int .i64 0),.eq (.pointer (some ⟨b1,o1+0*8,none⟩)),.eq (.pointer (some ⟨b1,o1+0*8+4,none⟩)),.eq (.agg (r1).toArray),.ret (.bool true),.eq (.bool false),.eq (.bool false),.eq (.bool false),.eq (.slice (some ⟨b1,o1,none⟩) l.length cp),.eq (.int .i64 0),.eq (.pointer (some ⟨b1,o1+0*8,none⟩)),.eq (.pointer (some ⟨b1,o1+0*8+4,none⟩)),.eq (.agg (r1).toArray),.ret (.int .i64 sg),.eq (.bool false),.eq (.bool false),.eq (.bool false),.eq (.int .i64 0),.eq (.bool false),.eq (.bool false),.eq undef,.eq undef,.eq undef,.eq undef,.eq undef,.eq undef,.eq undef,.eq undef,.eq undef,.eq undef,.eq undef,.eq undef,.eq undef,.eq (.bool false),.eq (.bool false)] [10,11,12,13,14,15,16,17,18,19,20,21,22,23,24,25,26,27,28,29,30,31,32,33,34,35,36,37,38,39,40,41,42,43,44,45,46,47,48,49,50,51,52,53] rfl rfl rfl rfl ⟨?_,?_,?_,?_,?_,?_,?_,?_,?_,?_,?_,?_,?_,?_,?_,?_,?_,?_,?_,?_,?_,?_,?_,?_,?_,?_,?_,?_,?_,?_,?_,?_,?_,?_,?_,?_,?_,?_,?_,?_,?_,?_,?_,?_,trivial⟩ ?_
      ·exact λ_ _ a _ _ _=>xM rfl (a 0 rfl)
      ·exact λ_ _ a _ _ _=>xM rfl (a 3 rfl)
      ·exact λ_ _ _ _ _ e=>pI rfl Tryz.underlying27 b1 o1 0 (d) (e.1 rfl) (e.2.1 rfl)
      ·exact λ_ _ _ _ _ e=>af rfl (uf rfl (e.1 rfl))
      ·exact λ_ _ _ hL _ e=>pL rfl (dG (hC.on (b.trans (hL.below.mono b.size)))) Tryz.underlying36 (show(bI t.1).length=4 from rfl) (e.1 rfl)
      ·intro A w1 hA hL hS he;have hb:=hS rfl;have h14:=eT 14 (he.1 rfl);have hf0:=eF A 65;exact cP (f:=65) (args:=#[.agg (bI t.1).toArray]) (u▸jP t.1 _)
      ·intro A w1 hA hL hS he;have h15:=eT 15 (he.1 rfl);exact pZ rfl
      ·exact λ_ _ _ _ _ e=>xM rfl (e.1 rfl)
      ·exact λ_ _ a _ _ e=>yM (e.1 rfl) rfl (a 0 rfl)
      ·exact λ_ _ a _ _ e=>yM (e.1 rfl) rfl (a 3 rfl)
      ·exact λ_ _ _ _ _ e=>aF rfl rfl (e.2.2.1 rfl) (xI rfl Tryz.underlying27 b1 o1 0 (d) (e.1 rfl) (e.2.1 rfl))
      ·exact λ_ _ _ _ _ e=>aF rfl rfl (e.2.1 rfl) (zI rfl (e.1 rfl))
      ·exact λ_ _ _ hL _ e=>aF rfl rfl (e.2.1 rfl) (xL rfl (dW (hC.on (b.trans (hL.below.mono b.size)))) Tryz.underlying41 (hl1) (e.1 rfl))
      ·intro A w1 hA hL hS he;have hb:=hS rfl;have h17:=eT 17 (he.2.1 rfl);have h22:=eT 22 (he.1 rfl);have hf0:=eF A 66;exact cY (f:=66) (args:=#[.agg (r1).toArray]) h17 (uk _ _ _ (hr1.on (b.trans (hb.mono b.size))).rat y)
      ·intro A w1 hA hL hS he;have h17:=eT 17 (he.2.1 rfl);have h23:=eT 23 (he.1 rfl);exact yZ h17 rfl
      ·exact λ_ _ _ _ _ e=>pK rfl (e.1 rfl) (e.2.1 rfl)
      ·exact λ_ _ _ _ _ e=>xM rfl (e.1 rfl)
      ·exact λ_ _ a _ _ e=>yM (e.1 rfl) rfl (a 0 rfl)
      ·exact λ_ _ a _ _ e=>yM (e.1 rfl) rfl (a 3 rfl)
      ·exact λ_ _ _ _ _ e=>aF rfl rfl (e.2.2.1 rfl) (xI rfl Tryz.underlying27 b1 o1 0 (d) (e.1 rfl) (e.2.1 rfl))
      ·exact λ_ _ _ _ _ e=>aF rfl rfl (e.2.1 rfl) (zI rfl (e.1 rfl))
      ·exact λ_ _ _ hL _ e=>aF rfl rfl (e.2.1 rfl) (xL rfl (dW (hC.on (b.trans (hL.below.mono b.size)))) Tryz.underlying41 (hl1) (e.1 rfl))
      ·intro A w1 hA hL hS he;have hb:=hS rfl;have h26:=eT 26 (he.2.1 rfl);have h31:=eT 31 (he.1 rfl);have hf0:=eF A 67;exact cY (f:=67) (args:=#[.agg (r1).toArray]) h26 (x _ (b.trans (hb.mono b.size)))
      ·intro A w1 hA hL hS he;have h26:=eT 26 (he.2.1 rfl);have h32:=eT 32 (he.1 rfl);have hc0:=eC A (.int .i64 0);exact yZ h26 rfl
      ·exact λ_ _ _ _ _ e=>pK rfl (e.1 rfl) (e.2.1 rfl)
      ·exact λ_ _ _ _ _ e=>xM rfl (e.1 rfl)
      ·exact λ_ _ a _ _ e=>yM (e.1 rfl) rfl (a 3 rfl)
      ·intro A w1 hA hL hS he;have h35:=eT 35 (he.2.1 rfl);have h36:=eT 36 (he.1 rfl);have hc0:=eC A (.int .i64 0);exact yZ h35 rfl
      ·exact λ_ _ _ _ _ e=>yM (e.2.1 rfl) rfl (e.1 rfl)
      ·exact λ_ _ _ _ _ e=>nO false (e.1 rfl)
      ·exact λ_ _ _ _ _ e=>nO false (e.1 rfl)
      ·exact λ_ _ _ _ _ e=>nO false (e.2.1 rfl)
      ·exact λ_ _ _ _ _ e=>nO false (e.2.2.1 rfl)
      ·exact λ_ _ _ _ _ e=>nO false (e.2.1 rfl)
      ·exact λ_ _ _ _ _ e=>nO false (e.2.1 rfl)
      ·exact λ_ _ _ _ _ e=>nO false (e.1 rfl)
      ·exact λ_ _ _ _ _ e=>nO false (e.1 rfl)
      ·exact λ_ _ _ _ _ e=>nO false (e.2.2.1 rfl)
      ·exact λ_ _ _ _ _ e=>nO false (e.2.1 rfl)
      ·exact λ_ _ _ _ _ e=>nO false (e.2.1 rfl)
      ·exact λ_ _ _ _ _ e=>nO false (e.2.2.1 rfl)
      ·exact λ_ _ _ _ _ e=>nO false (e.2.1 rfl)
      ·exact λ_ _ _ _ _ e=>aF rfl rfl (e.2.2.1 rfl) (fM rfl (e.1 rfl) rfl rfl)
      ·exact λ_ _ _ _ _ e=>pK rfl (e.1 rfl) (e.2.1 rfl)
      ·intro W2 hL2;simp only[aQ,ae.eq,ae.ret,lZ];go_frame;go_wp2;go_roundw
       case rel=>exact⟨1,oM,nM,o,b.trans (hL2.below.mono b.size)⟩
       case measure=>simp[intOf];omega
     | succ i =>
      have F:i<l.length:=oM;have r:l[i]?=some l[i]:=gE F;generalize l[i]=s at r;obtain⟨b2,o2,Vv,e2,-,hE2,B⟩:=h.get r;cases e2;obtain⟨r2,rfl,hr2⟩:=hE2;change bW aR w b1 (o1+i*8) _ at B;have hk0:((0:Int)<((i+1:Nat):Int)):=oM;have M:(((i+1:Nat):Int) - 1)=(i:Int):=oM;by_cases hg:s.1.gt t.1=true
      ·have D:=hg;have o:=bN (by simp[xD,n,r,hc,z,hg]);clear bN m p n r z hc hg;refine aD mixed (none) (0) (eQ.none) [.eq (.slice (some ⟨b1,o1,none⟩) l.length cp),.eq (.int .i64 (i+1:Nat)),.eq (.pointer (some ⟨b1,o1+(i+1)*8,none⟩)),.eq (.pointer (some ⟨b1,o1+(i+1)*8,none⟩)),.eq (.agg (bI t.1).toArray),.ret (.bool true),.eq (.bool false),.eq (.bool false),.eq (.slice (some ⟨b1,o1,none⟩) l.length cp),.eq (.int .i64 (i+1:Nat)),.eq (.pointer (some ⟨b1,o1+(i+1)*8,none⟩)),.eq (.pointer (some ⟨b1,o1+(i+1)*8+4,none⟩)),.eq (.agg (r1).toArray),.ret (.bool true),.eq (.bool false),.eq (.bool false),.eq (.bool false),.eq (.slice (some ⟨b1,o1,none⟩) l.length cp),.eq (.int .i64 (i+1:Nat)),.eq (.pointer (some ⟨b1,o1+(i+1)*8,none⟩)),.eq (.pointer (some ⟨b1,o1+(i+1)*8+4,none⟩)),.eq (.agg (r1).toArray),.ret (.int .i64 sg),.eq (.bool false),.eq (.bool false),.eq (.bool false),.eq (.int .i64 (i+1:Nat)),.eq (.bool true),.eq (.bool true),.eq (.slice (some ⟨b1,o1,none⟩) l.length cp),.eq (.int .i64 (i+1:Nat)),.eq (.int .i64 i),.eq (.pointer (some ⟨b1,o1+i*8,none⟩)),.eq (.pointer (some ⟨b1,o1+i*8,none⟩)),.eq (.agg (bI s.1).toArray),.eq (.slice (some ⟨b1,o1,none⟩) l.length cp),.eq (.int .i64 (i+1:Nat)),.eq (.pointer (some ⟨b1,o1+(i+1)*8,none⟩)),.eq (.pointer (some ⟨b1,o1+(i+1)*8,none⟩)),.eq (.agg (bI t.1).toArray),.ret (.bool true),.eq (.bool false),.eq (.bool false),.eq (.bool false)] [10,11,12,13,14,15,16,17,18,19,20,21,22,23,24,25,26,27,28,29,30,31,32,33,34,35,36,37,38,39,40,41,42,43,44,45,46,47,48,49,50,51,52,53] rfl rfl rfl rfl ⟨?_,?_,?_,?_,?_,?_,?_,?_,?_,?_,?_,?_,?_,?_,?_,?_,?_,?_,?_,?_,?_,?_,?_,?_,?_,?_,?_,?_,?_,?_,?_,?_,?_,?_,?_,?_,?_,?_,?_,?_,?_,?_,?_,?_,trivial⟩ ?_
       ·exact λ_ _ a _ _ _=>xM rfl (a 0 rfl)
       ·exact λ_ _ a _ _ _=>xM rfl (a 3 rfl)
       ·exact λ_ _ _ _ _ e=>pI rfl Tryz.underlying27 b1 o1 (i+1) (d) (e.1 rfl) (e.2.1 rfl)
       ·exact λ_ _ _ _ _ e=>af rfl (uf rfl (e.1 rfl))
       ·exact λ_ _ _ hL _ e=>pL rfl (dG (hC.on (b.trans (hL.below.mono b.size)))) Tryz.underlying36 (show(bI t.1).length=4 from rfl) (e.1 rfl)
       ·intro A w1 hA hL hS he;have hb:=hS rfl;have h14:=eT 14 (he.1 rfl);have hf0:=eF A 65;exact cP (f:=65) (args:=#[.agg (bI t.1).toArray]) (u▸jP t.1 _)
       ·intro A w1 hA hL hS he;have h15:=eT 15 (he.1 rfl);exact pZ rfl
       ·exact λ_ _ _ _ _ e=>xM rfl (e.1 rfl)
       ·exact λ_ _ a _ _ e=>yM (e.1 rfl) rfl (a 0 rfl)
       ·exact λ_ _ a _ _ e=>yM (e.1 rfl) rfl (a 3 rfl)
       ·exact λ_ _ _ _ _ e=>aF rfl rfl (e.2.2.1 rfl) (xI rfl Tryz.underlying27 b1 o1 (i+1) (d) (e.1 rfl) (e.2.1 rfl))
       ·exact λ_ _ _ _ _ e=>aF rfl rfl (e.2.1 rfl) (zI rfl (e.1 rfl))
       ·exact λ_ _ _ hL _ e=>aF rfl rfl (e.2.1 rfl) (xL rfl (dW (hC.on (b.trans (hL.below.mono b.size)))) Tryz.underlying41 (hl1) (e.1 rfl))
       ·intro A w1 hA hL hS he;have hb:=hS rfl;have h17:=eT 17 (he.2.1 rfl);have h22:=eT 22 (he.1 rfl);have hf0:=eF A 66;exact cY (f:=66) (args:=#[.agg (r1).toArray]) h17 (uk _ _ _ (hr1.on (b.trans (hb.mono b.size))).rat y)
       ·intro A w1 hA hL hS he;have h17:=eT 17 (he.2.1 rfl);have h23:=eT 23 (he.1 rfl);exact yZ h17 rfl
       ·exact λ_ _ _ _ _ e=>pK rfl (e.1 rfl) (e.2.1 rfl)
       ·exact λ_ _ _ _ _ e=>xM rfl (e.1 rfl)
       ·exact λ_ _ a _ _ e=>yM (e.1 rfl) rfl (a 0 rfl)
       ·exact λ_ _ a _ _ e=>yM (e.1 rfl) rfl (a 3 rfl)
       ·exact λ_ _ _ _ _ e=>aF rfl rfl (e.2.2.1 rfl) (xI rfl Tryz.underlying27 b1 o1 (i+1) (d) (e.1 rfl) (e.2.1 rfl))
       ·exact λ_ _ _ _ _ e=>aF rfl rfl (e.2.1 rfl) (zI rfl (e.1 rfl))
       ·exact λ_ _ _ hL _ e=>aF rfl rfl (e.2.1 rfl) (xL rfl (dW (hC.on (b.trans (hL.below.mono b.size)))) Tryz.underlying41 (hl1) (e.1 rfl))
       ·intro A w1 hA hL hS he;have hb:=hS rfl;have h26:=eT 26 (he.2.1 rfl);have h31:=eT 31 (he.1 rfl);have hf0:=eF A 67;exact cY (f:=67) (args:=#[.agg (r1).toArray]) h26 (x _ (b.trans (hb.mono b.size)))
       ·intro A w1 hA hL hS he;have h26:=eT 26 (he.2.1 rfl);have h32:=eT 32 (he.1 rfl);have hc0:=eC A (.int .i64 0);exact yZ h26 rfl
       ·exact λ_ _ _ _ _ e=>pK rfl (e.1 rfl) (e.2.1 rfl)
       ·exact λ_ _ _ _ _ e=>xM rfl (e.1 rfl)
       ·exact λ_ _ a _ _ e=>yM (e.1 rfl) rfl (a 3 rfl)
       ·intro A w1 hA hL hS he;have h35:=eT 35 (he.2.1 rfl);have h36:=eT 36 (he.1 rfl);have hc0:=eC A (.int .i64 0);exact yZ h35 rfl
       ·exact λ_ _ _ _ _ e=>yM (e.2.1 rfl) rfl (e.1 rfl)
       ·exact λ_ _ a _ _ e=>yM (e.1 rfl) rfl (a 0 rfl)
       ·exact λ_ _ a _ _ e=>yM (e.1 rfl) rfl (a 3 rfl)
       ·intro A w1 hA hL hS he;have h38:=eT 38 (he.2.1 rfl);have h40:=eT 40 (he.1 rfl);have hc0:=eC A (.int .i64 1);refine aF rfl rfl h38 ?_;refine aC rfl rfl ?_;generalize A.eval=ev at *;go_simp;rw[kD oM]
       ·exact λ_ _ _ _ _ e=>aF rfl rfl (e.2.2.1 rfl) (xI rfl Tryz.underlying27 b1 o1 i (F) (e.1 rfl) (e.2.1 rfl))
       ·exact λ_ _ _ _ _ e=>aF rfl rfl (e.2.1 rfl) (uf rfl (e.1 rfl))
       ·exact λ_ _ _ hL _ e=>aF rfl rfl (e.2.1 rfl) (xL rfl (dG (B.on (b.trans (hL.below.mono b.size)))) Tryz.underlying36 (show(bI s.1).length=4 from rfl) (e.1 rfl))
       ·exact λ_ _ a _ _ e=>yM (e.1 rfl) rfl (a 0 rfl)
       ·exact λ_ _ a _ _ e=>yM (e.1 rfl) rfl (a 3 rfl)
       ·exact λ_ _ _ _ _ e=>aF rfl rfl (e.2.2.1 rfl) (xI rfl Tryz.underlying27 b1 o1 (i+1) (d) (e.1 rfl) (e.2.1 rfl))
       ·exact λ_ _ _ _ _ e=>aF rfl rfl (e.2.1 rfl) (uf rfl (e.1 rfl))
       ·exact λ_ _ _ hL _ e=>aF rfl rfl (e.2.1 rfl) (xL rfl (dG (hC.on (b.trans (hL.below.mono b.size)))) Tryz.underlying36 (show(bI t.1).length=4 from rfl) (e.1 rfl))
       ·intro A w1 hA hL hS he;have hb:=hS rfl;have h38:=eT 38 (he.2.2.1 rfl);have h44:=eT 44 (he.1 rfl);have h49:=eT 49 (he.2.1 rfl);have hf0:=eF A 68;exact cY (f:=68) (args:=#[.agg (bI s.1).toArray,.agg (bI t.1).toArray]) h38 (D▸oI s.1 t.1 _)
       ·intro A w1 hA hL hS he;have h38:=eT 38 (he.2.1 rfl);have h50:=eT 50 (he.1 rfl);exact yZ h38 rfl
       ·exact λ_ _ _ _ _ e=>aF rfl rfl (e.2.2.1 rfl) (fM rfl (e.1 rfl) rfl (e.2.1 rfl))
       ·exact λ_ _ _ _ _ e=>pK rfl (e.1 rfl) (e.2.1 rfl)
       ·intro W2 hL2;simp only[aQ,ae.eq,ae.ret,lZ];go_frame;go_wp2;go_roundw
        case rel=>exact⟨i+1+1,oM,nM,o,b.trans (hL2.below.mono b.size)⟩
        case measure=>simp[intOf];omega
      ·have C:s.1.gt t.1=false:=by simpa using hg
       have D:=C;have o:=m (by simp[xD,n,r,C]);clear bN m p n r z hc hg C;refine aD mixed (none) (0) (eQ.none) [.eq (.slice (some ⟨b1,o1,none⟩) l.length cp),.eq (.int .i64 (i+1:Nat)),.eq (.pointer (some ⟨b1,o1+(i+1)*8,none⟩)),.eq (.pointer (some ⟨b1,o1+(i+1)*8,none⟩)),.eq (.agg (bI t.1).toArray),.ret (.bool true),.eq (.bool false),.eq (.bool false),.eq (.slice (some ⟨b1,o1,none⟩) l.length cp),.eq (.int .i64 (i+1:Nat)),.eq (.pointer (some ⟨b1,o1+(i+1)*8,none⟩)),.eq (.pointer (some ⟨b1,o1+(i+1)*8+4,none⟩)),.eq (.agg (r1).toArray),.ret (.bool true),.eq (.bool false),.eq (.bool false),.eq (.bool false),.eq (.slice (some ⟨b1,o1,none⟩) l.length cp),.eq (.int .i64 (i+1:Nat)),.eq (.pointer (some ⟨b1,o1+(i+1)*8,none⟩)),.eq (.pointer (some ⟨b1,o1+(i+1)*8+4,none⟩)),.eq (.agg (r1).toArray),.ret (.int .i64 sg),.eq (.bool false),.eq (.bool false),.eq (.bool false),.eq (.int .i64 (i+1:Nat)),.eq (.bool true),.eq (.bool true),.eq (.slice (some ⟨b1,o1,none⟩) l.length cp),.eq (.int .i64 (i+1:Nat)),.eq (.int .i64 i),.eq (.pointer (some ⟨b1,o1+i*8,none⟩)),.eq (.pointer (some ⟨b1,o1+i*8,none⟩)),.eq (.agg (bI s.1).toArray),.eq (.slice (some ⟨b1,o1,none⟩) l.length cp),.eq (.int .i64 (i+1:Nat)),.eq (.pointer (some ⟨b1,o1+(i+1)*8,none⟩)),.eq (.pointer (some ⟨b1,o1+(i+1)*8,none⟩)),.eq (.agg (bI t.1).toArray),.ret (.bool false),.eq (.bool true),.eq (.bool true),.eq (.bool true)] [10,11,12,13,14,15,16,17,18,19,20,21,22,23,24,25,26,27,28,29,30,31,32,33,34,35,36,37,38,39,40,41,42,43,44,45,46,47,48,49,50,51,52,53] rfl rfl rfl rfl ⟨?_,?_,?_,?_,?_,?_,?_,?_,?_,?_,?_,?_,?_,?_,?_,?_,?_,?_,?_,?_,?_,?_,?_,?_,?_,?_,?_,?_,?_,?_,?_,?_,?_,?_,?_,?_,?_,?_,?_,?_,?_,?_,?_,?_,trivial⟩ ?_
       ·exact λ_ _ a _ _ _=>xM rfl (a 0 rfl)
       ·exact λ_ _ a _ _ _=>xM rfl (a 3 rfl)
       ·exact λ_ _ _ _ _ e=>pI rfl Tryz.underlying27 b1 o1 (i+1) (d) (e.1 rfl) (e.2.1 rfl)
       ·exact λ_ _ _ _ _ e=>af rfl (uf rfl (e.1 rfl))
       ·exact λ_ _ _ hL _ e=>pL rfl (dG (hC.on (b.trans (hL.below.mono b.size)))) Tryz.underlying36 (show(bI t.1).length=4 from rfl) (e.1 rfl)
       ·intro A w1 hA hL hS he;have hb:=hS rfl;have h14:=eT 14 (he.1 rfl);have hf0:=eF A 65;exact cP (f:=65) (args:=#[.agg (bI t.1).toArray]) (u▸jP t.1 _)
       ·intro A w1 hA hL hS he;have h15:=eT 15 (he.1 rfl);exact pZ rfl
       ·exact λ_ _ _ _ _ e=>xM rfl (e.1 rfl)
       ·exact λ_ _ a _ _ e=>yM (e.1 rfl) rfl (a 0 rfl)
       ·exact λ_ _ a _ _ e=>yM (e.1 rfl) rfl (a 3 rfl)
       ·exact λ_ _ _ _ _ e=>aF rfl rfl (e.2.2.1 rfl) (xI rfl Tryz.underlying27 b1 o1 (i+1) (d) (e.1 rfl) (e.2.1 rfl))
       ·exact λ_ _ _ _ _ e=>aF rfl rfl (e.2.1 rfl) (zI rfl (e.1 rfl))
       ·exact λ_ _ _ hL _ e=>aF rfl rfl (e.2.1 rfl) (xL rfl (dW (hC.on (b.trans (hL.below.mono b.size)))) Tryz.underlying41 (hl1) (e.1 rfl))
       ·intro A w1 hA hL hS he;have hb:=hS rfl;have h17:=eT 17 (he.2.1 rfl);have h22:=eT 22 (he.1 rfl);have hf0:=eF A 66;exact cY (f:=66) (args:=#[.agg (r1).toArray]) h17 (uk _ _ _ (hr1.on (b.trans (hb.mono b.size))).rat y)
       ·intro A w1 hA hL hS he;have h17:=eT 17 (he.2.1 rfl);have h23:=eT 23 (he.1 rfl);exact yZ h17 rfl
       ·exact λ_ _ _ _ _ e=>pK rfl (e.1 rfl) (e.2.1 rfl)
       ·exact λ_ _ _ _ _ e=>xM rfl (e.1 rfl)
       ·exact λ_ _ a _ _ e=>yM (e.1 rfl) rfl (a 0 rfl)
       ·exact λ_ _ a _ _ e=>yM (e.1 rfl) rfl (a 3 rfl)
       ·exact λ_ _ _ _ _ e=>aF rfl rfl (e.2.2.1 rfl) (xI rfl Tryz.underlying27 b1 o1 (i+1) (d) (e.1 rfl) (e.2.1 rfl))
       ·exact λ_ _ _ _ _ e=>aF rfl rfl (e.2.1 rfl) (zI rfl (e.1 rfl))
       ·exact λ_ _ _ hL _ e=>aF rfl rfl (e.2.1 rfl) (xL rfl (dW (hC.on (b.trans (hL.below.mono b.size)))) Tryz.underlying41 (hl1) (e.1 rfl))
       ·intro A w1 hA hL hS he;have hb:=hS rfl;have h26:=eT 26 (he.2.1 rfl);have h31:=eT 31 (he.1 rfl);have hf0:=eF A 67;exact cY (f:=67) (args:=#[.agg (r1).toArray]) h26 (x _ (b.trans (hb.mono b.size)))
       ·intro A w1 hA hL hS he;have h26:=eT 26 (he.2.1 rfl);have h32:=eT 32 (he.1 rfl);have hc0:=eC A (.int .i64 0);exact yZ h26 rfl
       ·exact λ_ _ _ _ _ e=>pK rfl (e.1 rfl) (e.2.1 rfl)
       ·exact λ_ _ _ _ _ e=>xM rfl (e.1 rfl)
       ·exact λ_ _ a _ _ e=>yM (e.1 rfl) rfl (a 3 rfl)
       ·intro A w1 hA hL hS he;have h35:=eT 35 (he.2.1 rfl);have h36:=eT 36 (he.1 rfl);have hc0:=eC A (.int .i64 0);exact yZ h35 rfl
       ·exact λ_ _ _ _ _ e=>yM (e.2.1 rfl) rfl (e.1 rfl)
       ·exact λ_ _ a _ _ e=>yM (e.1 rfl) rfl (a 0 rfl)
       ·exact λ_ _ a _ _ e=>yM (e.1 rfl) rfl (a 3 rfl)
       ·intro A w1 hA hL hS he;have h38:=eT 38 (he.2.1 rfl);have h40:=eT 40 (he.1 rfl);have hc0:=eC A (.int .i64 1);refine aF rfl rfl h38 ?_;refine aC rfl rfl ?_;generalize A.eval=ev at *;go_simp;rw[kD oM]
       ·exact λ_ _ _ _ _ e=>aF rfl rfl (e.2.2.1 rfl) (xI rfl Tryz.underlying27 b1 o1 i (F) (e.1 rfl) (e.2.1 rfl))
       ·exact λ_ _ _ _ _ e=>aF rfl rfl (e.2.1 rfl) (uf rfl (e.1 rfl))
       ·exact λ_ _ _ hL _ e=>aF rfl rfl (e.2.1 rfl) (xL rfl (dG (B.on (b.trans (hL.below.mono b.size)))) Tryz.underlying36 (show(bI s.1).length=4 from rfl) (e.1 rfl))
       ·exact λ_ _ a _ _ e=>yM (e.1 rfl) rfl (a 0 rfl)
       ·exact λ_ _ a _ _ e=>yM (e.1 rfl) rfl (a 3 rfl)
       ·exact λ_ _ _ _ _ e=>aF rfl rfl (e.2.2.1 rfl) (xI rfl Tryz.underlying27 b1 o1 (i+1) (d) (e.1 rfl) (e.2.1 rfl))
       ·exact λ_ _ _ _ _ e=>aF rfl rfl (e.2.1 rfl) (uf rfl (e.1 rfl))
       ·exact λ_ _ _ hL _ e=>aF rfl rfl (e.2.1 rfl) (xL rfl (dG (hC.on (b.trans (hL.below.mono b.size)))) Tryz.underlying36 (show(bI t.1).length=4 from rfl) (e.1 rfl))
       ·intro A w1 hA hL hS he;have hb:=hS rfl;have h38:=eT 38 (he.2.2.1 rfl);have h44:=eT 44 (he.1 rfl);have h49:=eT 49 (he.2.1 rfl);have hf0:=eF A 68;exact cY (f:=68) (args:=#[.agg (bI s.1).toArray,.agg (bI t.1).toArray]) h38 (D▸oI s.1 t.1 _)
       ·intro A w1 hA hL hS he;have h38:=eT 38 (he.2.1 rfl);have h50:=eT 50 (he.1 rfl);exact yZ h38 rfl
       ·exact λ_ _ _ _ _ e=>aF rfl rfl (e.2.2.1 rfl) (fM rfl (e.1 rfl) rfl (e.2.1 rfl))
       ·exact λ_ _ _ _ _ e=>pK rfl (e.1 rfl) (e.2.1 rfl)
       ·intro W2 hL2;simp only[aQ,ae.eq,ae.ret,lZ];go_frame;go_wp2;go_ret;exact⟨by rw[o.out]<;>rfl,b.trans (hL2.below.mono b.size)⟩
   ·have G:t.1.nat=false:=by simpa using z
    have u:=G;have o:=m (by simp[xD,n,G]);clear bN m p n z G;refine aD mixed (none) (0) (eQ.none) [.eq (.slice (some ⟨b1,o1,none⟩) l.length cp),.eq (.int .i64 k),.eq (.pointer (some ⟨b1,o1+k*8,none⟩)),.eq (.pointer (some ⟨b1,o1+k*8,none⟩)),.eq (.agg (bI t.1).toArray),.ret (.bool false),.eq (.bool true),.eq (.bool true),.eq undef,.eq undef,.eq undef,.eq undef,.eq undef,.eq undef,.eq undef,.eq (.bool true),.eq (.bool true),.eq undef,.eq undef,.eq undef,.eq undef,.eq undef,.eq undef,.eq undef,.eq (.bool true),.eq (.bool true),.eq undef,.eq undef,.eq undef,.eq undef,.eq undef,.eq undef,.eq undef,.eq undef,.eq undef,.eq undef,.eq undef,.eq undef,.eq undef,.eq undef,.eq undef,.eq undef,.eq undef,.eq (.bool true)] [10,11,12,13,14,15,16,17,18,19,20,21,22,23,24,25,26,27,28,29,30,31,32,33,34,35,36,37,38,39,40,41,42,43,44,45,46,47,48,49,50,51,52,53] rfl rfl rfl rfl ⟨?_,?_,?_,?_,?_,?_,?_,?_,?_,?_,?_,?_,?_,?_,?_,?_,?_,?_,?_,?_,?_,?_,?_,?_,?_,?_,?_,?_,?_,?_,?_,?_,?_,?_,?_,?_,?_,?_,?_,?_,?_,?_,?_,?_,trivial⟩ ?_
    ·exact λ_ _ a _ _ _=>xM rfl (a 0 rfl)
    ·exact λ_ _ a _ _ _=>xM rfl (a 3 rfl)
    ·exact λ_ _ _ _ _ e=>pI rfl Tryz.underlying27 b1 o1 k (d) (e.1 rfl) (e.2.1 rfl)
    ·exact λ_ _ _ _ _ e=>af rfl (uf rfl (e.1 rfl))
    ·exact λ_ _ _ hL _ e=>pL rfl (dG (hC.on (b.trans (hL.below.mono b.size)))) Tryz.underlying36 (show(bI t.1).length=4 from rfl) (e.1 rfl)
    ·intro A w1 hA hL hS he;have hb:=hS rfl;have h14:=eT 14 (he.1 rfl);have hf0:=eF A 65;exact cP (f:=65) (args:=#[.agg (bI t.1).toArray]) (u▸jP t.1 _)
    ·intro A w1 hA hL hS he;have h15:=eT 15 (he.1 rfl);exact pZ rfl
    ·exact λ_ _ _ _ _ e=>xM rfl (e.1 rfl)
    ·exact λ_ _ _ _ _ e=>nO true (e.1 rfl)
    ·exact λ_ _ _ _ _ e=>nO true (e.1 rfl)
    ·exact λ_ _ _ _ _ e=>nO true (e.2.2.1 rfl)
    ·exact λ_ _ _ _ _ e=>nO true (e.2.1 rfl)
    ·exact λ_ _ _ _ _ e=>nO true (e.2.1 rfl)
    ·exact λ_ _ _ _ _ e=>nO true (e.2.1 rfl)
    ·exact λ_ _ _ _ _ e=>nO true (e.2.1 rfl)
    ·exact λ_ _ _ _ _ e=>af rfl (fM rfl (e.1 rfl) rfl rfl)
    ·exact λ_ _ _ _ _ e=>xM rfl (e.1 rfl)
    ·exact λ_ _ _ _ _ e=>nO true (e.1 rfl)
    ·exact λ_ _ _ _ _ e=>nO true (e.1 rfl)
    ·exact λ_ _ _ _ _ e=>nO true (e.2.2.1 rfl)
    ·exact λ_ _ _ _ _ e=>nO true (e.2.1 rfl)
    ·exact λ_ _ _ _ _ e=>nO true (e.2.1 rfl)
    ·exact λ_ _ _ _ _ e=>nO true (e.2.1 rfl)
    ·exact λ_ _ _ _ _ e=>nO true (e.2.1 rfl)
    ·exact λ_ _ _ _ _ e=>af rfl (fM rfl (e.1 rfl) rfl rfl)
    ·exact λ_ _ _ _ _ e=>xM rfl (e.1 rfl)
    ·exact λ_ _ _ _ _ e=>nO true (e.1 rfl)
    ·exact λ_ _ _ _ _ e=>nO true (e.2.1 rfl)
    ·exact λ_ _ _ _ _ e=>nO true (e.2.1 rfl)
    ·exact λ_ _ _ _ _ e=>aZ rfl rfl (e.1 rfl) rfl
    ·exact λ_ _ _ _ _ e=>aZ rfl rfl (e.1 rfl) rfl
    ·exact λ_ _ _ _ _ e=>aZ rfl rfl (e.2.1 rfl) rfl
    ·exact λ_ _ _ _ _ e=>aZ rfl rfl (e.2.2.1 rfl) rfl
    ·exact λ_ _ _ _ _ e=>aZ rfl rfl (e.2.1 rfl) rfl
    ·exact λ_ _ _ _ _ e=>aZ rfl rfl (e.2.1 rfl) rfl
    ·exact λ_ _ _ _ _ e=>aZ rfl rfl (e.1 rfl) rfl
    ·exact λ_ _ _ _ _ e=>aZ rfl rfl (e.1 rfl) rfl
    ·exact λ_ _ _ _ _ e=>aZ rfl rfl (e.2.2.1 rfl) rfl
    ·exact λ_ _ _ _ _ e=>aZ rfl rfl (e.2.1 rfl) rfl
    ·exact λ_ _ _ _ _ e=>aZ rfl rfl (e.2.1 rfl) rfl
    ·exact λ_ _ _ _ _ e=>aZ rfl rfl (e.2.2.1 rfl) rfl
    ·exact λ_ _ _ _ _ e=>aZ rfl rfl (e.2.1 rfl) rfl
    ·exact λ_ _ _ _ _ e=>nO true (e.2.2.1 rfl)
    ·exact λ_ _ _ _ _ e=>af rfl (fM rfl (e.1 rfl) rfl rfl)
    ·intro W2 hL2;simp only[aQ,ae.eq,ae.ret,lZ];go_frame;go_wp2;go_ret;exact⟨by rw[o.out]<;>rfl,b.trans (hL2.below.mono b.size)⟩
  ·obtain rfl:k=l.length:=oM;have o:Hid (R=true):=q.out.2 (λi L=>p.out i L);go_wp2;go_ret;exact⟨by rw[o.out]<;>rfl,b⟩
theorem KQ(vp:Value)(p:List ai)(v:Nat)(w:World)(h:aj w vp p)(hv:v<4)(q:p.length<=100000000):Calls Tryz.prog 27 #[vp,.int .i64 v] w (oP w (.int .i64 (aH p v))):=by
 obtain⟨s,cap,rfl,m⟩:=h.shape;obtain⟨R,j⟩:∃R,R=aH p v:=⟨_,rfl⟩;rw[<-j];replace j:=zH j;replace h:=zH h;have hv4:(v:Int)<4:=oM
 go_enter Tryz.func27,Tryz.ntmps27
 go_wp2
 go_loopw [5,6] (λd i wr=>∃k:Nat,k<=p.length/\i=.int .i64 k/\d=.int .i64 (aH (p.take k) v)/\Below w.heap.size w wr) (λ_ i _=>p.length-(intOf i).toNat)
 case atStart=>exact⟨0,oM,rfl,rfl,Below.refl _ _⟩
 case round =>
  obtain⟨k,u,rfl,rfl,hb⟩:=hrel;by_cases b:k<p.length
  ·have n:p[k]?=some p[k]:=gE b
   have bN:aH (p.take (k+1)) v=max (aH (p.take k) v) (p[k].1.get v):=by unfold aH;rw[List.take_succ_eq_append_getElem b,List.foldl_append];rfl
   generalize p[k]=t at n bN;obtain⟨l,off,r,rfl,-,hC⟩:=fO (h.out.on hb) n;have o:(k:Int)<p.length:=oM
   have z:wr.cell? ⟨l,off+k*8+v,none⟩=some (.int .i64 (t.1.get v)):=by rw[hC.cell v (by simp[bI];omega)];exact oW t.1 v hv r
   generalize t.1.get v=x at *;generalize aH (p.take k) v=d at *;replace bN:=zH bN;clear hC
   go_wp2_with (refine ak rfl _ _ 27 rfl aR Tryz.underlying27 _ 8 96 kM _ _ _ rfl .i64 _ rfl k rfl b l off rfl ?_)
   go_roundw
   case measure=>simp[intOf];omega
   case rel=>exact⟨k+1,oM,nM,by rw[bN.out],hb⟩
  ·obtain rfl:k=p.length:=oM;rw[tL (nL _),<-j.out];go_wp2;go_ret;exact⟨rfl,hb⟩
theorem Nl{w:World}{r:List Value}{q:Rat}{e:Ex}(h:iC w r q):(bI e++r).toArray.all (·.oneCell')=true:=by
 rw[Array.all_eq_true_iff_forall_mem];intro v hv;rcases List.mem_append.1 (by simpa using hv)with hv|hv
 ·exact Cf e v hv
 ·exact h.one v hv
theorem Nn(vp:Value)(p:List ai)(v:Nat)(n:Int)(w:World)(hp:aj w vp p)(hv:v<4)(lp:p.length<=100000000):Calls Tryz.prog 80 #[vp,.int .i64 v,.int .i64 n] w (aN w (aG p v n)):=by
 obtain⟨ap,cp,rfl,Z⟩:=hp.shape;have hv4:(v:Int)<4:=oM;obtain⟨R,hR⟩:∃R,R=aG p v n:=⟨_,rfl⟩;rw[<-hR];replace hR:=zH hR
 go_enter Tryz.func80,Tryz.ntmps80
 go_wp2;have hown0:=gF aT w;have hb0:Below w.heap.size w (w.alloc (.cells #[] aR)):=(Below.refl _ _).alloc (nL _) _;change cB w.heap.size (w.alloc (.cells #[] 43)) _ _ at hown0;change Below w.heap.size w (w.alloc (.cells #[] 43))at hb0;replace hp:=zH hp
 go_loopw [7,8] (λo i wr=>∃k:Nat,k<=p.length/\i=.int .i64 k/\Hid (cB w.heap.size wr o (aG (p.take k) v n))/\(aG (p.take k) v n).length<=k/\Below w.heap.size w wr) (λ_ i _=>p.length-(intOf i).toNat)
 case atStart=>exact⟨0,oM,rfl,zH hown0,by simp[aG],hb0⟩
 case round =>
  clear hown0 hb0;obtain⟨k,I,rfl,d,a0,l⟩:=hrel;by_cases D:k<p.length
  ·have s:p[k]?=some p[k]:=gE D;generalize p[k]=t at s;have b:=Be p s v n;obtain⟨Y,op,x,rfl,q,hC⟩:=fO (hp.out.on l) s;have u:=q.len;have h8:(bI t.1++x).length=8:=by rw[List.length_append,u];rfl
   have hr:=hC.range;have S:(k:Int)<p.length:=oM;clear hC
   go_upto_region 6 with (first
    | (refine ak rfl _ _ 27 rfl aR Tryz.underlying27 _ 8 96 kM _ _ _ rfl .i64 _ rfl k rfl D Y op rfl ?_)
    | (refine wpList_load_mid rfl 43 _ rfl _ _ rfl _ _ hr Tryz.underlying43 rfl (by rw[h8];kernel_rfl) ?_)
    | (refine aA rfl _ (.tmp 9) (.tmp 20) rfl _ _ _ _ rfl rfl (Blk.new wr aR [.int .i64 0,.int .i64 0,.int .i64 0,.int .i64 0,.bool false,.slice none 0 0,.bool false,.slice none 0 0]) (by simp[bI,u]) (by simp only[List.size_toArray,h8];exact zZ) (Nl q) ?_;intro W3 R3 gr3))
   have y:Blk W3 wr.heap.size aR (bI t.1++x):=by simpa using R3
   have C:Below wr.heap.size wr (wr.alloc (.cells #[.int .i64 0,.int .i64 0,.int .i64 0,.int .i64 0,.bool false,.slice none 0 0,.bool false,.slice none 0 0] aR)):=(Below.refl _ _).alloc (nL _) _;have hb3:Below wr.heap.size wr W3:=C.trans (aL gr3 sM (nL _));have hbr3:=l.trans (hb3.mono l.size);have hown3:=d.out.on hb3;have hrc3:=q.on hb3;have N:w.heap.size<=wr.heap.size:=l.size;have F:u7.ownBlock≠some wr.heap.size:=λh=>by have:=(d.out.base_le _ h).2;omega
   have m:∀k,u7.ownBlock=some k->w.heap.size<=k:=λk I=>(d.out.base_le k I).1;clear hr R3 gr3 C hb3 q d l;generalize wr.heap.size=mb at *;have B:=oW t.1 v hv x;have z:=y.at1 v _ B;have r:=wD t.1 v hv 0 x;by_cases G:t.1.get v=n
   ·have e1:(t.1.get v==n)=true:=by simpa using G
    rw[if_pos G]at b;have hf:=y.frozen v
    go_upto_region 8 with (fail)
    have hl4:=bf (j:=v) y (.int .i64 0);have B4:=y.set v (.int .i64 0);rw[r]at B4;have hown4:=hown3.lr hl4 (bu dM) (.inr F);have hrc4:=hrc3.lr hl4 dM;have hbr4:=hbr3.trans (hl4.belowAt hbr3.size (λk I=>by cases I;exact N));generalize W3.setCell ⟨mb,v,none⟩ (.int .i64 0)=W4 at *;have M:some mb≠u7.ownBlock:=λh=>F h.symm;obtain⟨E,hE⟩:∃E,E=t.1.put v 0:=⟨_,rfl⟩;rw[<-hE]at B4 b;have J:(bI E++x).length=8:=by rw[List.length_append,u];rfl
    replace b:=zH b;clear hl4 z hf y hown3 hrc3 hbr3 B r hE e1 G;refine aI trivial (u7.ownBlock) (aR) (hown4.okr) [.eq (u7),.eq (.agg (bI E++x).toArray),.new1 aT fJ ((E,t.2)),.row aT (w.heap.size) W4.heap.size (aG (p.take k) v n++[(E,t.2)])] [30,31,32,33] rfl rfl rfl rfl ⟨λ_ _ a _ _ _=>xM rfl (a 7 rfl),λ_ _ a hL _ _=>pL rfl ((B4.lr hL M).cells.range) Tryz.underlying43 (J) (a 9 rfl),?_,?_,trivial⟩ ?_
    ·intro A w1 hA hL hS he;have h31:=eT 31 (he.1 rfl);refine af rfl ?_;have hE:(aT:El _).E w1 _ ((E,t.2)):=⟨_,rfl,hrc4.lr hL dM⟩;refine fI rfl rfl ((hown4.okr).lr hL) hE (bH rfl ?_) (λ_ _ h=>h);simp only[List.map_toArray,List.map_cons,List.map_nil,h31];exact bS _ _ ((aT).len hE)
    ·intro A w1 hA hL hS he;have hb:=hS rfl;have L:Below w.heap.size w w1:=hbr4.trans (hL.belowAt hbr4.size m);have h30:=eT 30 (he.1 rfl);obtain⟨v32,h32,f32⟩:=fT 32 (he.2.1 rfl);exact af rfl (dZ rfl rfl rfl Tryz.underlying27 bQ h30 h32 (hown4.on hb) rfl rfl (eD f32) (by simp only[List.length_cons,List.length_nil];omega) (L.size) hL.1.size (λ_ _ h1 h2=>⟨h1,h2⟩))
    ·intro W5 hL5;simp only[aQ,ae.eq,ae.new1,ae.row,ae.asPure,ae.of,ae.fragile,lZ];rintro v32 - v33 ⟨hown5,X⟩;go_frame;have hbW5:=hbr4.trans (hL5.belowAt hbr4.size m);go_wp2;go_roundw
     case measure=>simp[intOf];omega
     case rel=>exact⟨k+1,oM,nM,zH (by rw[b.out];exact hown5),by rw[b.out,List.length_append];simp only[List.length_cons,List.length_nil];omega,hbW5⟩
   ·have e1:(t.1.get v==n)=false:=by simpa using G
    rw[if_neg G,List.append_nil]at b;replace b:=zH b;go_wp2;go_roundw
    case measure=>simp[intOf];omega
    case rel=>exact⟨k+1,oM,nM,zH (by rw[b.out];exact hown3),by rw[b.out];omega,hbr3⟩
  ·obtain rfl:k=p.length:=oM;rw[tL (nL _)]at d;go_wp2;go_ret;exact⟨_,rfl,by rw[hR.out];exact d.out.isSl,l⟩
theorem Bh(vp:Value)(p:List ai)(v:Nat)(w:World)(hp:aj w vp p)(hv:v<4)(hd:aH p v<=100000000)(C:p.length<=100000000):Calls Tryz.prog 63 #[vp,.int .i64 v] w (JZ w (aB p v)):=by
 obtain⟨ap,cp,rfl,D⟩:=hp.shape;have x:=zH (λW (hb:Below w.heap.size w W)=>KQ _ p v W (hp.on hb) hv C);have z:=zH (λW (hb:Below w.heap.size w W) (n:Nat)=>Nn _ p v n W (hp.on hb) hv C);have F:=vR p v;obtain⟨R,hR⟩:∃R,R=aB p v:=⟨_,rfl⟩;rw[<-hR];have m:R=(List.range (aH p v+1).toNat).map λn:Nat=>aG p v n:=hR;clear hR;generalize aH p v=d at *;replace m:=zH m;replace hp:=zH hp
 go_enter Tryz.func63,Tryz.ntmps63
 go_wp2;have hown0:=gF qG w;have hb0:Below w.heap.size w (w.alloc (.cells #[] polyT)):=(Below.refl _ _).alloc (nL _) _;change DU w.heap.size (w.alloc (.cells #[] 27)) _ _ at hown0;change Below w.heap.size w (w.alloc (.cells #[] 27))at hb0
 go_loopw [5,6] (λo i wr=>∃k:Nat,(k:Int)<=d+1/\i=.int .i64 k/\Hid (DU w.heap.size wr o ((List.range k).map λn:Nat=>aG p v n))/\Below w.heap.size w wr) (λ_ i _=>(d+1).toNat-(intOf i).toNat)
 case atStart=>exact⟨0,oM,rfl,zH hown0,hb0⟩
 case round =>
  clear hown0 hb0;obtain⟨k,B,rfl,l,b⟩:=hrel;by_cases G:(k:Int)<=d
  ·have s:(List.range (k+1)).map (λn:Nat=>aG p v n)=(List.range k).map (λn:Nat=>aG p v n)++[aG p v k]:=by rw[List.range_succ,List.map_append];rfl
   have y:((List.range k).map λn:Nat=>aG p v n).length+([aG p v k]:List (List ai)).length<=1000000000:=by simp;omega
   have j:∀(W:World)(a:Option Addr)(c:Nat),Below wr.heap.size wr W->aj W (.slice a (aG p v k).length c) (aG p v k) ->
     DU w.heap.size (W.alloc (.cells #[.slice a (aG p v k).length c] 27)) u5 ((List.range k).map λn:Nat=>aG p v n) /\
     gB (W.alloc (.cells #[.slice a (aG p v k).length c] 27)) (.slice (some ⟨W.heap.size,0,none⟩) 1 1) [aG p v k] /\
     Below w.heap.size w (W.alloc (.cells #[.slice a (aG p v k).length c] 27)):=λW a c hb h=>by
    have q:Below W.heap.size W (W.alloc (.cells #[.slice a (aG p v k).length c] 27)):=(Below.refl _ _).alloc (nL _) _;exact⟨l.out.on (hb.trans (q.mono hb.size)),jV (e:=qG) (Blk.new W polyT [.slice a (aG p v k).length c]) ⟨_,rfl,h.on q⟩,(b.trans (hb.mono b.size)).trans (q.mono (b.trans (hb.mono b.size)).size)⟩
   have r:∀k,u5.ownBlock=some k->w.heap.size<=k:=λk B=>(l.out.base_le k B).1;replace j:=zH j;replace s:=zH s
   go_wp2_with (first
    | (go_at_call 27;refine(x.out _ b).mono ?_;rintro en w2 ⟨rfl,hb2⟩)
    | (go_at_call 80;refine(z.out _ (b.trans (hb2.mono b.size)) k).mono ?_;rintro en w3 ⟨v3,rfl,hv3,hb3⟩;obtain⟨a3,c3,rfl,-⟩:=hv3.shape)
    | (at_builtin;refine dF rfl _ _ 75 rfl Tryz.underlying75 uW rfl rfl (j.out _ _ _ (hb2.trans (hb3.mono hb2.size)) hv3).1 (j.out _ _ _ (hb2.trans (hb3.mono hb2.size)) hv3).2.1 y (j.out _ _ _ (hb2.trans (hb3.mono hb2.size)) hv3).2.2.size ?_;intro v8 w8 hown8 hl8 hv8))
   have u:=(j.out _ _ _ (hb2.trans (hb3.mono hb2.size)) hv3).2.2;go_roundw
   case measure=>simp[intOf];omega
   case rel=>exact⟨k+1,oM,nM,zH (by rw[s.out];exact hown8),u.trans (hl8.belowAt u.size r)⟩
  ·have e1:(d+1).toNat=k:=oM;rw[e1]at m
   go_wp2_with (go_at_call 27;refine(x.out _ b).mono ?_;rintro en w2 ⟨rfl,hb2⟩)
   go_ret;exact⟨_,rfl,by rw[m.out];exact(l.out.on hb2).isSl,b.trans (hb2.mono b.size)⟩
end Go.Proofs.YtopclbeomcggiaaGreat
