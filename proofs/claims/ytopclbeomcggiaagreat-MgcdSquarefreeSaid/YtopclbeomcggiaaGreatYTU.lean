/- law08.MgcdSquarefree: the walk. -/
import Derived.Test.YtopclbeomcggiaaGreatYSJ
import Derived.Test.YtopclbeomcggiaaGreatYSM
set_option linter.unusedVariables false
set_option linter.unusedSimpArgs false
set_option maxHeartbeats 16000000
set_option maxRecDepth 100000
namespace Go.Proofs.YtopclbeomcggiaaGreat
open Go.RowKit Q Go.WideMaps Go.Maps
theorem IU{b d:Value}{p:List aj}{w:World}(hp:ai w b p)(hq:ai w d p)(rk:∀t∈p,Rk t.2)(len:p.length<=100000000):Calls Tryz.prog 13 #[b,d] w (pX w (.bool true)):=by have:=FT b d p p w hp hq rk rk len;rwa[decide_eq_true rfl]at this
theorem KZ(p q:Value)(L:List (List aj × Nat))(w:World)(ha:vC w p L)(hb:vC w q L)(m:∀f∈L,(∀t∈f.1,Rk t.2)/\f.1.length<=100000000)(x:L.length<=1000):Calls Tryz.prog 30 #[p,q] w (pX w (.bool true)):=by
 obtain⟨r,n,rfl,-⟩:=ha.shape;obtain⟨s,o,rfl,-⟩:=hb.shape;replace ha:=zH ha;replace hb:=zH hb;replace m:=zH m
 go_enter Tryz.func30,Tryz.ntmps30
 go_wp2
 go_loopw [5] (λi wr=>∃k:Nat,k<=L.length/\i=.int .i64 k/\Below w.heap.size w wr) (λi _=>L.length-(intOf i).toNat)
 case atStart=>exact⟨0,oM,nM,Below.refl _ _⟩
 case round =>
  obtain⟨k,u,rfl,d⟩:=hrel;by_cases b:k<L.length
  ·have j:L[k]?=some L[k]:=gE b;have l:=m.out _ (List.getElem_mem b);generalize L[k]=f at *;obtain⟨b1,o1,cs1,rfl,-,⟨v1,rfl,p1⟩,C1⟩:=(ha.out.on d).get j;obtain⟨b2,o2,VJ,rfl,-,⟨v2,rfl,p2⟩,C2⟩:=(hb.out.on d).get j;change bL _ wr b1 (o1+k*2) _ at C1;change bL _ wr b2 (o2+k*2) _ at C2;have y:(k:Int)<(L.length:Int):=oM;have c10:∀W,Below wr.heap.size wr W->W.cell? ⟨b1,o1+k*2,none⟩=some v1:=λW hb=>(C1.on hb).cell 0 sM;have c11:∀W,Below wr.heap.size wr W->W.cell? ⟨b1,o1+k*2+1,none⟩=some (.int .i64 (f.2:Int)):=λW hb=>(C1.on hb).cell 1 sM;have c20:∀W,Below wr.heap.size wr W->W.cell? ⟨b2,o2+k*2,none⟩=some v2:=λW hb=>(C2.on hb).cell 0 sM;have c21:∀W,Below wr.heap.size wr W->W.cell? ⟨b2,o2+k*2+1,none⟩=some (.int .i64 (f.2:Int)):=λW hb=>(C2.on hb).cell 1 sM;generalize f.2=e at *;clear C1 C2 j
   go_upto_region 6 with (fail)
   refine aC mixed (none) (0) (fM.none) [.eq (.slice (some ⟨b1,o1,none⟩) L.length n),.eq (.int .i64 k),.eq (.pointer (some ⟨b1,o1+k*2,none⟩)),.eq (.pointer (some ⟨b1,o1+k*2+1,none⟩)),.eq (.int .i64 e),.eq (.slice (some ⟨b2,o2,none⟩) L.length o),.eq (.int .i64 k),.eq (.pointer (some ⟨b2,o2+k*2,none⟩)),.eq (.pointer (some ⟨b2,o2+k*2+1,none⟩)),.eq (.int .i64 e),.eq (.bool false),.eq (.bool false),.eq (.slice (some ⟨b1,o1,none⟩) L.length n),.eq (.int .i64 k),.eq (.pointer (some ⟨b1,o1+k*2,none⟩)),.eq (.pointer (some ⟨b1,o1+k*2,none⟩)),.eq (v1),.eq (.slice (some ⟨b2,o2,none⟩) L.length o),.eq (.int .i64 k),.eq (.pointer (some ⟨b2,o2+k*2,none⟩)),.eq (.pointer (some ⟨b2,o2+k*2,none⟩)),.eq (v2),.ret (.bool true),.eq (.bool false),.eq (.bool false)] [17,18,19,20,21,22,23,24,25,26,27,28,29,30,31,32,33,34,35,36,37,38,39,40,41] rfl rfl rfl rfl ⟨λ_ _ a _ _ _=>xM rfl (a 0 rfl),λ_ _ a _ _ _=>xM rfl (a 5 rfl),λ_ _ _ _ _ e=>pI rfl Tryz.underlying50 b1 o1 k (b) (e.1 rfl) (e.2.1 rfl),λA _ _ _ _ he=>have h19:=eT 19 (he.1 rfl);pZ rfl,?_,λ_ _ a _ _ _=>xM rfl (a 1 rfl),λ_ _ a _ _ _=>xM rfl (a 5 rfl),λ_ _ _ _ _ e=>pI rfl Tryz.underlying50 b2 o2 k (b) (e.1 rfl) (e.2.1 rfl),λA _ _ _ _ he=>have h24:=eT 24 (he.1 rfl);pZ rfl,?_,λA _ _ _ _ he=>have h21:=eT 21 (he.1 rfl);have h26:=eT 26 (he.2.1 rfl);pZ rfl,λ_ _ _ _ _ e=>xM rfl (e.1 rfl),λ_ _ a _ _ e=>yM (e.1 rfl) rfl (a 0 rfl),λ_ _ a _ _ e=>yM (e.1 rfl) rfl (a 5 rfl),λ_ _ _ _ _ e=>aI rfl rfl (e.2.2.1 rfl) (xI rfl Tryz.underlying50 b1 o1 k (b) (e.1 rfl) (e.2.1 rfl)),λA _ _ _ _ he=>have h28:=eT 28 (he.2.1 rfl);have h31:=eT 31 (he.1 rfl);yZ h28 rfl,?_,λ_ _ a _ _ e=>yM (e.1 rfl) rfl (a 1 rfl),λ_ _ a _ _ e=>yM (e.1 rfl) rfl (a 5 rfl),λ_ _ _ _ _ e=>aI rfl rfl (e.2.2.1 rfl) (xI rfl Tryz.underlying50 b2 o2 k (b) (e.1 rfl) (e.2.1 rfl)),λA _ _ _ _ he=>have h28:=eT 28 (he.2.1 rfl);have h36:=eT 36 (he.1 rfl);yZ h28 rfl,?_,λA _ _ _ hS he=>have hb:=hS rfl;have h28:=eT 28 (he.2.2.1 rfl);have h33:=eT 33 (he.1 rfl);have h38:=eT 38 (he.2.1 rfl);have hf0:=eF A 13;cY (f:=13) (args:=#[v1,v2]) h28 (IU (p1.on hb) (p2.on hb) l.1 l.2),λA _ _ _ _ he=>have h28:=eT 28 (he.2.1 rfl);have h39:=eT 39 (he.1 rfl);yZ h28 rfl,λA _ _ _ _ he=>have h28:=eT 28 (he.1 rfl);have h40:=eT 40 (he.2.1 rfl);have hc0:=eC A (.bool true);pZ rfl,trivial⟩ ?_
   ·intro A w1 hA hL hS he;have h20:=eT 20 (he.1 rfl);refine ae rfl ?_;have c0:=c11 w1 hL.below;exact aA rfl rfl gZ
   ·intro A w1 hA hL hS he;have h25:=eT 25 (he.1 rfl);refine ae rfl ?_;have c0:=c21 w1 hL.below;exact aA rfl rfl gZ
   ·intro A w1 hA hL hS he;have h28:=eT 28 (he.2.1 rfl);have h32:=eT 32 (he.1 rfl);refine aI rfl rfl h28 ?_;have c0:=c10 w1 hL.below;exact aA rfl rfl gZ
   ·intro A w1 hA hL hS he;have h28:=eT 28 (he.2.1 rfl);have h37:=eT 37 (he.1 rfl);refine aI rfl rfl h28 ?_;have c0:=c20 w1 hL.below;exact aA rfl rfl gZ
   ·intro W5 hL5;have hb5:=hL5.below;simp only[aU,af.eq,af.ret,af.of,lZ];go_frame;clear hL5 c10 c11 c20 c21;go_wp2;go_roundw
    case rel=>exact⟨k+1,oM,nM,d.trans (hb5.mono d.size)⟩
    case measure=>simp[intOf];omega
  ·obtain rfl:L.length=k:=oM;go_wp2;go_ret;exact⟨rfl,d⟩
structure Y1 (k:Nat) (R:List (List aj × Nat)) (Pr:Nat->Nat->List aj) (i:Nat) (f:List aj × Nat):Prop where
 dg:∃d:Int,1<=d/\∀W u,ai W u f.1->Calls Tryz.prog 27 #[u,.int .i64 k] W (pX W (.int .i64 d))
 n1:1<=f.2
 n2:f.2<=8
 pr:∀g,R[i-1]?=some g->0<i->g.2<f.2
 pt:∃(D E:List aj)(d:Int),d<=0/\(∀W u,ai W u f.1->Calls Tryz.prog 32 #[u,.int .i64 k] W (aP W D))/\(∀W u v,ai W u f.1->ai W v D->Calls Tryz.prog 17 #[u,v] W (aP W E)) /\
  ∀W u,ai W u E->Calls Tryz.prog 27 #[u,.int .i64 k] W (pX W (.int .i64 d))
 cp:∀j g,j<i->R[j]?=some g->∀W u v,ai W u f.1->ai W v g.1->Calls Tryz.prog 17 #[u,v] W (aP W [(e0,(1:Rat))])
 ml:∀j,j<f.2->∀W u v,ai W u (Pr i j)->ai W v f.1->Calls Tryz.prog 12 #[u,v] W (aP W (Pr i (j+1)))
 en:Pr i f.2=Pr (i+1) 0
theorem ZL:bW ((1:Int):Rat)=[(e0,(1:Rat))]:=by rw[bW,if_neg dM];rfl
theorem Qw(y B Y:Value)(z:Int)(k:Nat)(pa pb A P8 F8:List aj)(R:List (List aj × Nat))(Pr:Nat->Nat->List aj)(dA:Int)(w:World)(Ka:Pk Qc pa)(Kb:Pk Qc pb)(hA:aZ pa (aZ pb pb)=A)
  (o1:(Qc.mul Qc).ok) (o2:(Qc.mul (Qc.mul Qc)).ok) (hz:IntKind.i64.wrap z=z) (hk:z.tmod 2=k) (hR8:R.length<=1000)
  (m1:Hid (∀W,Below w.heap.size w W->Calls Tryz.prog 28 #[y] W (aP W pa)))
  (m2:Hid (∀W,Below w.heap.size w W->Calls Tryz.prog 28 #[B] W (aP W pb)))
  (cS:Hid (∀W u,ai W u A->Calls Tryz.prog 29 #[u,.int .i64 k] W (Ea W R)))
  (cT:Hid (∀W u,ai W u A->Calls Tryz.prog 31 #[u,.int .i64 k] W (Ea W R)))
  (cF:Hid (∀W u v,vC W u R->vC W v R->Calls Tryz.prog 30 #[u,v] W (pX W (.bool true))))
  (cD:Hid (∀W u,ai W u A->Calls Tryz.prog 27 #[u,.int .i64 k] W (pX W (.int .i64 dA))))
  (c1:Hid (∀W u v,ai W u [(e0,(1:Rat))]->ai W v [(e0,(1:Rat))]->Calls Tryz.prog 13 #[u,v] W (pX W (.bool true))))
  (cN:Hid (∀W,Calls Tryz.prog 26 #[.int .i64 1] W (aP W [(e0,(1:Rat))])))
  (p0:Hid (Pr 0 0=[(e0,(1:Rat))]))
  (s:Hid (∀i f,R[i]?=some f->Y1 k R Pr i f))
  (p:Hid (dA<1/\R=[]\/¬dA<1/\(∀W u,ai W u A->Calls Tryz.prog 21 #[u,.int .i64 k] W (aP W P8))/\(∀W u,ai W u P8->Calls Tryz.prog 15 #[u] W (aP W F8)) /\
   ∀W u v,ai W u (Pr R.length 0)->ai W v F8->Calls Tryz.prog 13 #[u,v] W (pX W (.bool true)))) :
  Calls Tryz.prog 7 #[.agg #[y,B,Y],.int .u8 z] w (pX w (.bool true)):=by
 have hM:=zH (λW u v (h1:ai W u pa) (h2:ai W v (aZ pb pb))=>hA▸NY (w:=W) Ka (Kb.mul Kb o1) o2 h1 h2);have hQ:=zH (λW u v (h1:ai W u pb) (h2:ai W v pb)=>NY (w:=W) Kb Kb o1 h1 h2);replace hz:=zH hz;replace hk:=zH hk;clear hA Ka Kb o1 o2;generalize aZ pb pb=qb at *
 go_enter Tryz.func7,Tryz.ntmps7
 go_upto_region 2 with (go_at_call 10;refine(KY _).mono ?_;rintro e w1 ⟨rfl,hb1⟩)
 have I:=(Below.refl w.heap.size w).alloc (nL _) (.cells #[y,B,Y] 24);have hb0:=I.trans (hb1.mono I.size);have Z:Blk w1 w.heap.size 24 [y,B,Y]:=(show Blk (w.alloc (.cells #[y,B,Y] 24)) w.heap.size 24 [y,B,Y]from Blk.new w _ [y,B,Y]).on hb1;have ao:=hz.out;have ag:=hk.out;refine aN trivial (none) (0) (fM.none) [.eq (.int .u8 z),.eq (.int .i64 z),.eq (.int .i64 (k:Int)),.eq (.pointer (some ⟨w.heap.size,1,none⟩)),.eq (B),.poly dM dM (pb)] [16,17,18,19,20,21] rfl rfl rfl rfl ⟨λ_ _ a _ _ _=>xM rfl (a 1 rfl),λA _ _ _ _ he=>have h16:=eT 16 (he.1 rfl);pZ rfl,λA _ _ _ _ he=>have h17:=eT 17 (he.1 rfl);have hc0:=eC A (.int .i64 2);pZ rfl,λA _ hA _ _ _=>have h2:A.eval (.tmp 2)=.pointer (some ⟨w.heap.size,0,none⟩):=hA 2 rfl;pZ rfl,λA _ _ hL _ he=>have hb:=hL.below;have h19:=eT 19 (he.1 rfl);have c0:=((Z).on hb).at1 1 _ rfl;pZ rfl,λA _ _ _ hS he=>have hb:=hS rfl;have h20:=eT 20 (he.1 rfl);have hf0:=eF A 28;cP (f:=28) (args:=#[B]) (m2.out _ (hb0.trans (hb.mono hb0.size))),trivial⟩ ?_;intro w2 hL;simp only[aU,af.eq,af.poly,af.ret,af.of,lZ];rintro vb hB;go_frame;have hb:=hL.below;replace hb0:=hb0.trans (hb.mono hb0.size);replace Z:=Z.on hb;clear hL hb m2 I hb1 ao ag hz hk
 go_upto_region 3 with (fail)
 refine aN trivial (none) (0) (fM.none) [.eq (.pointer (some ⟨w.heap.size,0,none⟩)),.eq (y),.poly dM dM (pa),.eq (vb),.eq (vb),.poly dM dM (qb),.poly dM dM (A)] [22,23,24,25,26,27,28] rfl rfl rfl rfl ⟨λA _ hA _ _ _=>have h2:A.eval (.tmp 2)=.pointer (some ⟨w.heap.size,0,none⟩):=hA 2 rfl;pZ rfl,λA _ _ hL _ he=>have hb:=hL.below;have h22:=eT 22 (he.1 rfl);have c0:=((Z).on hb).at1 0 _ rfl;pZ rfl,λA _ _ _ hS he=>have hb:=hS rfl;have h23:=eT 23 (he.1 rfl);have hf0:=eF A 28;cP (f:=28) (args:=#[y]) (m1.out _ (hb0.trans (hb.mono hb0.size))),λ_ _ a _ _ _=>xM rfl (a 7 rfl),λ_ _ a _ _ _=>xM rfl (a 7 rfl),λA _ _ _ hS he=>have hb:=hS rfl;have h25:=eT 25 (he.1 rfl);have h26:=eT 26 (he.2.1 rfl);have hf0:=eF A 12;cP (f:=12) (args:=#[vb,vb]) (hQ.out _ _ _ (hB.on hb) (hB.on hb)),?_,trivial⟩ ?_
 ·intro A w1 hA hL hS he;have hb:=hS rfl;obtain⟨v24,h24,f24⟩:=fT 24 (he.1 rfl);obtain⟨v27,h27,f27⟩:=fT 27 (he.2.1 rfl);have hf0:=eF A 12;exact cP (f:=12) (args:=#[v24,v27]) (hM.out _ _ _ f24 f27)
 intro w3 hL;simp only[aU,af.eq,af.poly,af.ret,af.of,lZ];rintro _ - _ - va ha;go_frame;have hb:=hL.below;replace hb0:=hb0.trans (hb.mono hb0.size);clear hL hb m1 hB Z hQ hM
 go_upto_region 5 with (first
  | (go_at_call 26;refine(cN.out _).mono ?_;rintro en w5 ⟨v10,rfl,h10,hb5⟩)
  | (go_at_call 29;refine(cS.out _ _ ha).mono ?_;rintro en w4 ⟨v9,rfl,h9,hb4⟩))
 have hR5:=h9.on hb5;have hb45:=hb4.trans (hb5.mono hb4.size);have ha5:=ha.on hb45;obtain⟨al,C,rfl,-⟩:=hR5.shape;replace hb0:=hb0.trans (hb45.mono hb0.size);clear ha h9 hb4 hb5 hb45 cS
 go_wp2_with (first
  | (go_at_call 30;refine(cF.out _ _ _ (hR5.on hb6) h6).mono ?_;rintro en w7 ⟨rfl,hb7⟩)
  | (go_at_call 31;refine(cT.out _ _ ha5).mono ?_;rintro en w6 ⟨v6,rfl,h6,hb6⟩))
 have hb67:=hb6.trans (hb7.mono hb6.size);have hR:=zH (hR5.on hb67);have ha7:=zH (ha5.on hb67);have h107:=zH (h10.on hb67);replace hb0:=hb0.trans (hb67.mono hb0.size);clear hR5 ha5 h10 hb67 hb6 hb7 h6 cF cT
 go_loopw [10,11] (λvp vi wr=>∃i:Nat,i<=R.length/\vi=.int .i64 i/\Hid (ai wr vp (Pr i 0))/\Below w7.heap.size w7 wr) (λ_ vi _=>R.length-(intOf vi).toNat)
 case atStart=>exact⟨0,oM,nM,zH (by rw[p0.out];exact h107.out),Below.refl _ _⟩
 case round =>
  clear h107 p0;obtain⟨i,hi,rfl,hP,n⟩:=hrel;by_cases o:i<R.length
  ·clear p cD ha7;have S:R[i]?=some R[i]:=gE o;have E:=s.out i _ S;have a5:=zH (λ(h0:0<i)=>E.pr R[i - 1] (gE (oM:i - 1<R.length)) h0);generalize R[i]=f at *;obtain⟨b,l,cs1,rfl,-,⟨v1,rfl,p1⟩,C1⟩:=(hR.out.on n).get S;change bL _ wr b (l+i*2) _ at C1;have kk:(i:Int)<(R.length:Int):=oM;obtain⟨d,hd,dC⟩:=E.dg;obtain⟨D,G,d2,hd2,x,q,dC2⟩:=E.pt;have a0:=zH E.cp;have ap:=zH E.ml;have a9:=zH E.en;have n1:=E.n1;have n2:=E.n2;replace dC:=zH dC;replace x:=zH x;replace q:=zH q;replace dC2:=zH dC2;have c10:=zH (show ∀W,Below wr.heap.size wr W->W.cell? ⟨b,l+i*2,none⟩=some v1 from λW hb=>(C1.on hb).cell 0 sM);have c11:=zH (show ∀W,Below wr.heap.size wr W->W.cell? ⟨b,l+i*2+1,none⟩=some (.int .i64 (f.2:Int))from λW hb=>(C1.on hb).cell 1 sM);clear C1 S E;generalize f.2=N at *;have hN1:¬((N:Int)<1):=oM;have hd1:¬(d<1):=oM;have hd3:¬(0<d2):=oM;replace p1:=zH p1;obtain⟨wO,ar⟩:∃wO,wO=wr:=⟨_,rfl⟩
   go_upto_region 10 with (fail)
   have c0:=c10.out;refine aN trivial (none) (0) (fM.none) [.eq (.slice (some ⟨b,l,none⟩) R.length C),.eq (.int .i64 i),.eq (.pointer (some ⟨b,l+i*2,none⟩)),.eq (.pointer (some ⟨b,l+i*2,none⟩)),.eq (v1)] [45,46,47,48,49] rfl rfl rfl rfl ⟨λ_ _ a _ _ _=>xM rfl (a 9 rfl),λ_ _ a _ _ _=>xM rfl (a 11 rfl),λ_ _ _ _ _ e=>pI rfl Tryz.underlying50 b l i (o) (e.1 rfl) (e.2.1 rfl),λA _ _ _ _ he=>have h47:=eT 47 (he.1 rfl);pZ rfl,?_,trivial⟩ ?_
   ·intro A w1 hA hL hS he;have h48:=eT 48 (he.1 rfl);refine ae rfl ?_;have c0:=c0 w1 hL.below;exact aA rfl rfl gZ
   ·intro W2 hL2;simp only[aU,af.eq,af.of,lZ];go_frame;have hb2:=hL2.below;clear hL2 c0
    go_upto_region 11 with (fail)
    go_cut [89]from 50 to 90 (λc wd=>c=.bool false/\Below wr.heap.size wr wd)
    case first =>
     have c0:=λW (hb:Below W2.heap.size W2 W)=>c11.out W (hb2.trans (hb.mono hb2.size));have p2:=p1.out.on hb2;have a6:=x.out;have a2:=q.out;have dO:=dC.out;have a1:=dC2.out;by_cases hi0:0<i
     ·have a3:(0:Int)<(i:Int):=oM;have hi1:i - 1<R.length:=oM;obtain⟨b9,o9,cs9,e9,-,⟨v9,rfl,-⟩,C9⟩:=(hR.out.on n).get (gE hi1);have an:=a5.out hi0;generalize R[i - 1].2=M at *;cases e9;change bL _ wr b (l+(i - 1)*2) _ at C9;have c9:∀W,Below W2.heap.size W2 W->W.cell? ⟨b,l+(i - 1)*2+1,none⟩=some (.int .i64 (M:Int)):=λW hb=>(C9.on (hb2.trans (hb.mono hb2.size))).cell 1 sM;have aq:¬((N:Int)<=(M:Int)):=oM;have au:IntKind.i64.wrap ((i:Int) - 1)=((i - 1:Nat):Int):=by rw[lI oM];omega
      clear C9 an;refine aC mixed (none) (0) (fM.none) (.eq (v1)::.eq (.int .i64 (k:Int))::.ret (.int .i64 d)::.eq (.bool false)::.eq (.bool false)::.eq (.slice (some ⟨b,l,none⟩) R.length C)::.eq (.int .i64 i)::.eq (.pointer (some ⟨b,l+i*2,none⟩))::.eq (.pointer (some ⟨b,l+i*2+1,none⟩))::.eq (.int .i64 N)::.eq (.bool false)::.eq (.bool false)::.eq (.bool false)::.eq (.int .i64 i)::.eq (.bool true)::.eq (.bool true)::.eq (.slice (some ⟨b,l,none⟩) R.length C)::.eq (.int .i64 i)::.eq (.int .i64 ((i-1:Nat):Int))::.eq (.pointer (some ⟨b,l+(i-1)*2,none⟩))::.eq (.pointer (some ⟨b,l+(i-1)*2+1,none⟩))::.eq (.int .i64 M)::.eq (.slice (some ⟨b,l,none⟩) R.length C)::.eq (.int .i64 i)::.eq (.pointer (some ⟨b,l+i*2,none⟩))::.eq (.pointer (some ⟨b,l+i*2+1,none⟩))::.eq (.int .i64 N)::.eq (.bool false)::.eq (.bool false)::.eq (.bool false)::.eq (.bool false)::.eq (v1)::.eq (v1)::.eq (.int .i64 (k:Int))::.poly dM dM (D)::.poly dM dM (G)::.eq (.int .i64 (k:Int))::.ret (.int .i64 d2)::.eq (.bool false)::.eq (.bool false)::[]) (50::51::52::53::54::55::56::57::58::59::60::61::62::63::64::65::66::67::68::69::70::71::72::73::74::75::76::77::78::79::80::81::82::83::84::85::86::87::88::89::[]) rfl rfl rfl rfl ⟨?_,?_,?_,?_,?_,?_,?_,?_,?_,?_,?_,?_,?_,?_,?_,?_,?_,?_,?_,?_,?_,?_,?_,?_,?_,?_,?_,?_,?_,?_,?_,?_,?_,?_,?_,?_,?_,?_,?_,?_,trivial⟩ ?_
      ·exact λ_ _ a _ _ _=>xM rfl (a 12 rfl)
      ·exact λ_ _ a _ _ _=>xM rfl (a 6 rfl)
      ·intro A w1 hA hL hS he;have hb:=hS rfl;have h50:=eT 50 (he.1 rfl);have h51:=eT 51 (he.2.1 rfl);have hf0:=eF A 27;exact cP (f:=27) (args:=#[v1,.int .i64 (k:Int)]) (dO _ _ (p2.on hb))
      ·intro A w1 hA hL hS he;have h52:=eT 52 (he.1 rfl);have hc0:=eC A (.int .i64 1);exact pZ rfl
      ·exact λ_ _ _ _ _ e=>xM rfl (e.1 rfl)
      ·exact λ_ _ a _ _ e=>yM (e.1 rfl) rfl (a 9 rfl)
      ·exact λ_ _ a _ _ e=>yM (e.1 rfl) rfl (a 11 rfl)
      ·exact λ_ _ _ _ _ e=>aI rfl rfl (e.2.2.1 rfl) (xI rfl Tryz.underlying50 b l i (o) (e.1 rfl) (e.2.1 rfl))
      ·intro A w1 hA hL hS he;have h54:=eT 54 (he.2.1 rfl);have h57:=eT 57 (he.1 rfl);exact yZ h54 rfl
      ·intro A w1 hA hL hS he;have h54:=eT 54 (he.2.1 rfl);have h58:=eT 58 (he.1 rfl);refine aI rfl rfl h54 ?_;have c0:=c0 w1 hL.below;exact aA rfl rfl gZ
      ·intro A w1 hA hL hS he;have h54:=eT 54 (he.2.1 rfl);have h59:=eT 59 (he.1 rfl);have hc0:=eC A (.int .i64 1);exact yZ h54 rfl
      ·exact λ_ _ _ _ _ e=>pK rfl (e.1 rfl) (e.2.1 rfl)
      ·exact λ_ _ _ _ _ e=>xM rfl (e.1 rfl)
      ·exact λ_ _ a _ _ e=>yM (e.1 rfl) rfl (a 11 rfl)
      ·intro A w1 hA hL hS he;have h62:=eT 62 (he.2.1 rfl);have h63:=eT 63 (he.1 rfl);have hc0:=eC A (.int .i64 0);exact yZ h62 rfl
      ·exact λ_ _ _ _ _ e=>yM (e.2.1 rfl) rfl (e.1 rfl)
      ·exact λ_ _ a _ _ e=>yM (e.1 rfl) rfl (a 9 rfl)
      ·exact λ_ _ a _ _ e=>yM (e.1 rfl) rfl (a 11 rfl)
      ·intro A w1 hA hL hS he;have h65:=eT 65 (he.2.1 rfl);have h67:=eT 67 (he.1 rfl);have hc0:=eC A (.int .i64 1);exact yZ h65 rfl
      ·exact λ_ _ _ _ _ e=>aI rfl rfl (e.2.2.1 rfl) (xI rfl Tryz.underlying50 b l (i-1) (hi1) (e.1 rfl) (e.2.1 rfl))
      ·intro A w1 hA hL hS he;have h65:=eT 65 (he.2.1 rfl);have h69:=eT 69 (he.1 rfl);exact yZ h65 rfl
      ·intro A w1 hA hL hS he;have h65:=eT 65 (he.2.1 rfl);have h70:=eT 70 (he.1 rfl);refine aI rfl rfl h65 ?_;have c0:=c9 w1 hL.below;exact aA rfl rfl gZ
      ·exact λ_ _ a _ _ e=>yM (e.1 rfl) rfl (a 9 rfl)
      ·exact λ_ _ a _ _ e=>yM (e.1 rfl) rfl (a 11 rfl)
      ·exact λ_ _ _ _ _ e=>aI rfl rfl (e.2.2.1 rfl) (xI rfl Tryz.underlying50 b l i (o) (e.1 rfl) (e.2.1 rfl))
      ·intro A w1 hA hL hS he;have h65:=eT 65 (he.2.1 rfl);have h74:=eT 74 (he.1 rfl);exact yZ h65 rfl
      ·intro A w1 hA hL hS he;have h65:=eT 65 (he.2.1 rfl);have h75:=eT 75 (he.1 rfl);refine aI rfl rfl h65 ?_;have c0:=c0 w1 hL.below;exact aA rfl rfl gZ
      ·intro A w1 hA hL hS he;have h65:=eT 65 (he.2.2.1 rfl);have h71:=eT 71 (he.1 rfl);have h76:=eT 76 (he.2.1 rfl);exact yZ h65 rfl
      ·exact λ_ _ _ _ _ e=>aI rfl rfl (e.2.2.1 rfl) (iD rfl (e.1 rfl) rfl (e.2.1 rfl))
      ·exact λ_ _ _ _ _ e=>pK rfl (e.1 rfl) (e.2.1 rfl)
      ·exact λ_ _ _ _ _ e=>xM rfl (e.1 rfl)
      ·exact λ_ _ a _ _ e=>yM (e.1 rfl) rfl (a 12 rfl)
      ·exact λ_ _ a _ _ e=>yM (e.1 rfl) rfl (a 12 rfl)
      ·exact λ_ _ a _ _ e=>yM (e.1 rfl) rfl (a 6 rfl)
      ·intro A w1 hA hL hS he;have hb:=hS rfl;have h80:=eT 80 (he.2.2.1 rfl);have h82:=eT 82 (he.1 rfl);have h83:=eT 83 (he.2.1 rfl);have hf0:=eF A 32;exact cY (f:=32) (args:=#[v1,.int .i64 (k:Int)]) h80 (a6 _ _ (p2.on hb))
      ·intro A w1 hA hL hS he;have hb:=hS rfl;have h80:=eT 80 (he.2.2.2.1 rfl);have h81:=eT 81 (he.1 rfl);obtain⟨v84,h84,f84⟩:=fT 84 (he.2.1 rfl);have hf0:=eF A 17;exact cY (f:=17) (args:=#[v1,v84]) h80 (a2 _ _ _ (p2.on hb) f84)
      ·exact λ_ _ a _ _ e=>yM (e.1 rfl) rfl (a 6 rfl)
      ·intro A w1 hA hL hS he;have hb:=hS rfl;have h80:=eT 80 (he.2.2.2.1 rfl);obtain⟨v85,h85,f85⟩:=fT 85 (he.1 rfl);have h86:=eT 86 (he.2.1 rfl);have hf0:=eF A 27;exact cY (f:=27) (args:=#[v85,.int .i64 (k:Int)]) h80 (a1 _ _ f85)
      ·intro A w1 hA hL hS he;have h80:=eT 80 (he.2.1 rfl);have h87:=eT 87 (he.1 rfl);have hc0:=eC A (.int .i64 0);exact yZ h80 rfl
      ·exact λ_ _ _ _ _ e=>pK rfl (e.1 rfl) (e.2.1 rfl)
      ·intro W3 hL3;simp only[aU,af.eq,af.poly,af.ret,af.of,lZ];rintro _ - _ -;go_frame;go_wp2;go_meet
       case rel=>exact⟨rfl,hb2.trans (hL3.below.mono hb2.size)⟩
     ·have a3:¬((0:Int)<(i:Int)):=oM;refine aC mixed (none) (0) (fM.none) (.eq (v1)::.eq (.int .i64 (k:Int))::.ret (.int .i64 d)::.eq (.bool false)::.eq (.bool false)::.eq (.slice (some ⟨b,l,none⟩) R.length C)::.eq (.int .i64 i)::.eq (.pointer (some ⟨b,l+i*2,none⟩))::.eq (.pointer (some ⟨b,l+i*2+1,none⟩))::.eq (.int .i64 N)::.eq (.bool false)::.eq (.bool false)::.eq (.bool false)::.eq (.int .i64 i)::.eq (.bool false)::.eq (.bool false)::.eq undef::.eq undef::.eq undef::.eq undef::.eq undef::.eq undef::.eq undef::.eq undef::.eq undef::.eq undef::.eq undef::.eq undef::.eq (.bool false)::.eq (.bool false)::.eq (.bool false)::.eq (v1)::.eq (v1)::.eq (.int .i64 (k:Int))::.poly dM dM (D)::.poly dM dM (G)::.eq (.int .i64 (k:Int))::.ret (.int .i64 d2)::.eq (.bool false)::.eq (.bool false)::[]) (50::51::52::53::54::55::56::57::58::59::60::61::62::63::64::65::66::67::68::69::70::71::72::73::74::75::76::77::78::79::80::81::82::83::84::85::86::87::88::89::[]) rfl rfl rfl rfl ⟨?_,?_,?_,?_,?_,?_,?_,?_,?_,?_,?_,?_,?_,?_,?_,?_,?_,?_,?_,?_,?_,?_,?_,?_,?_,?_,?_,?_,?_,?_,?_,?_,?_,?_,?_,?_,?_,?_,?_,?_,trivial⟩ ?_
      ·exact λ_ _ a _ _ _=>xM rfl (a 12 rfl)
      ·exact λ_ _ a _ _ _=>xM rfl (a 6 rfl)
      ·intro A w1 hA hL hS he;have hb:=hS rfl;have h50:=eT 50 (he.1 rfl);have h51:=eT 51 (he.2.1 rfl);have hf0:=eF A 27;exact cP (f:=27) (args:=#[v1,.int .i64 (k:Int)]) (dO _ _ (p2.on hb))
      ·intro A w1 hA hL hS he;have h52:=eT 52 (he.1 rfl);have hc0:=eC A (.int .i64 1);exact pZ rfl
      ·exact λ_ _ _ _ _ e=>xM rfl (e.1 rfl)
      ·exact λ_ _ a _ _ e=>yM (e.1 rfl) rfl (a 9 rfl)
      ·exact λ_ _ a _ _ e=>yM (e.1 rfl) rfl (a 11 rfl)
      ·exact λ_ _ _ _ _ e=>aI rfl rfl (e.2.2.1 rfl) (xI rfl Tryz.underlying50 b l i (o) (e.1 rfl) (e.2.1 rfl))
      ·intro A w1 hA hL hS he;have h54:=eT 54 (he.2.1 rfl);have h57:=eT 57 (he.1 rfl);exact yZ h54 rfl
      ·intro A w1 hA hL hS he;have h54:=eT 54 (he.2.1 rfl);have h58:=eT 58 (he.1 rfl);refine aI rfl rfl h54 ?_;have c0:=c0 w1 hL.below;exact aA rfl rfl gZ
      ·intro A w1 hA hL hS he;have h54:=eT 54 (he.2.1 rfl);have h59:=eT 59 (he.1 rfl);have hc0:=eC A (.int .i64 1);exact yZ h54 rfl
      ·exact λ_ _ _ _ _ e=>pK rfl (e.1 rfl) (e.2.1 rfl)
      ·exact λ_ _ _ _ _ e=>xM rfl (e.1 rfl)
      ·exact λ_ _ a _ _ e=>yM (e.1 rfl) rfl (a 11 rfl)
      ·intro A w1 hA hL hS he;have h62:=eT 62 (he.2.1 rfl);have h63:=eT 63 (he.1 rfl);have hc0:=eC A (.int .i64 0);exact yZ h62 rfl
      ·exact λ_ _ _ _ _ e=>yM (e.2.1 rfl) rfl (e.1 rfl)
      ·exact λ_ _ _ _ _ e=>nO false (e.1 rfl)
      ·exact λ_ _ _ _ _ e=>nO false (e.1 rfl)
      ·exact λ_ _ _ _ _ e=>nO false (e.2.1 rfl)
      ·exact λ_ _ _ _ _ e=>nO false (e.2.2.1 rfl)
      ·exact λ_ _ _ _ _ e=>nO false (e.2.1 rfl)
      ·exact λ_ _ _ _ _ e=>nO false (e.2.1 rfl)
      ·exact λ_ _ _ _ _ e=>nO false (e.1 rfl)
      ·exact λ_ _ _ _ _ e=>nO false (e.1 rfl)
      ·exact λ_ _ _ _ _ e=>nO false (e.2.2.1 rfl)
      ·exact λ_ _ _ _ _ e=>nO false (e.2.1 rfl)
      ·exact λ_ _ _ _ _ e=>nO false (e.2.1 rfl)
      ·exact λ_ _ _ _ _ e=>nO false (e.2.2.1 rfl)
      ·exact λ_ _ _ _ _ e=>aI rfl rfl (e.2.2.1 rfl) (iD rfl (e.1 rfl) rfl rfl)
      ·exact λ_ _ _ _ _ e=>pK rfl (e.1 rfl) (e.2.1 rfl)
      ·exact λ_ _ _ _ _ e=>xM rfl (e.1 rfl)
      ·exact λ_ _ a _ _ e=>yM (e.1 rfl) rfl (a 12 rfl)
      ·exact λ_ _ a _ _ e=>yM (e.1 rfl) rfl (a 12 rfl)
      ·exact λ_ _ a _ _ e=>yM (e.1 rfl) rfl (a 6 rfl)
      ·intro A w1 hA hL hS he;have hb:=hS rfl;have h80:=eT 80 (he.2.2.1 rfl);have h82:=eT 82 (he.1 rfl);have h83:=eT 83 (he.2.1 rfl);have hf0:=eF A 32;exact cY (f:=32) (args:=#[v1,.int .i64 (k:Int)]) h80 (a6 _ _ (p2.on hb))
      ·intro A w1 hA hL hS he;have hb:=hS rfl;have h80:=eT 80 (he.2.2.2.1 rfl);have h81:=eT 81 (he.1 rfl);obtain⟨v84,h84,f84⟩:=fT 84 (he.2.1 rfl);have hf0:=eF A 17;exact cY (f:=17) (args:=#[v1,v84]) h80 (a2 _ _ _ (p2.on hb) f84)
      ·exact λ_ _ a _ _ e=>yM (e.1 rfl) rfl (a 6 rfl)
      ·intro A w1 hA hL hS he;have hb:=hS rfl;have h80:=eT 80 (he.2.2.2.1 rfl);obtain⟨v85,h85,f85⟩:=fT 85 (he.1 rfl);have h86:=eT 86 (he.2.1 rfl);have hf0:=eF A 27;exact cY (f:=27) (args:=#[v85,.int .i64 (k:Int)]) h80 (a1 _ _ f85)
      ·intro A w1 hA hL hS he;have h80:=eT 80 (he.2.1 rfl);have h87:=eT 87 (he.1 rfl);have hc0:=eC A (.int .i64 0);exact yZ h80 rfl
      ·exact λ_ _ _ _ _ e=>pK rfl (e.1 rfl) (e.2.1 rfl)
      ·intro W3 hL3;simp only[aU,af.eq,af.poly,af.ret,af.of,lZ];rintro _ - _ -;go_frame;go_wp2;go_meet
       case rel=>exact⟨rfl,hb2.trans (hL3.below.mono hb2.size)⟩
    case rest =>
     obtain⟨rfl,hb3⟩:=hcut;have P3:=zH (hP.out.on hb3);have p3:=zH (p1.out.on hb3);have hb8:=n.trans (hb3.mono n.size);have c12:=zH (λW (hb:Below wc.heap.size wc W)=>c11.out W (hb3.trans (hb.mono hb3.size)));clear hb2 c11 x q dC dC2 a5 hP p1 n hb3 c10 s;obtain⟨w8,rfl⟩:∃w8:World,w8=wc:=⟨_,rfl⟩;go_wp2
     go_loopw [13] (λX wr=>∃j:Nat,j<=i/\X=.int .i64 j/\Below w8.heap.size w8 wr) (λX _=>i-(intOf X).toNat)
     case atStart=>exact⟨0,oM,nM,Below.refl _ _⟩
     case round =>
      obtain⟨j,hj,rfl,m⟩:=hrel;by_cases a4:j<i
      ·have L:j<R.length:=oM;have kj:(j:Int)<(i:Int):=oM;obtain⟨b9,o9,cs9,e9,-,⟨v9,rfl,q9⟩,C9⟩:=(hR.out.on (hb8.trans (m.mono hb8.size))).get (gE L);have cC:=a0.out j R[j] a4 (gE L);generalize R[j]=g at *;cases e9;change bL _ wr b (l+j*2) _ at C9;have c9:∀W,Below wr.heap.size wr W->W.cell? ⟨b,l+j*2,none⟩=some v9:=λW hb=>(C9.on hb).cell 0 sM;have p4:=p3.out.on m;have a8:=cN.out;have a7:=c1.out;clear C9
       go_upto_region 16 with (fail)
       refine aN trivial (none) (0) (fM.none) [.eq (v1),.eq (.slice (some ⟨b,l,none⟩) R.length C),.eq (.int .i64 j),.eq (.pointer (some ⟨b,l+j*2,none⟩)),.eq (.pointer (some ⟨b,l+j*2,none⟩)),.eq (v9),.poly dM dM ([(e0,(1:Rat))]),.poly dM dM ([(e0,(1:Rat))]),.ret (.bool true),.eq (.bool false)] [95,96,97,98,99,100,101,102,103,104] rfl rfl rfl rfl ⟨λ_ _ a _ _ _=>xM rfl (a 12 rfl),λ_ _ a _ _ _=>xM rfl (a 9 rfl),λ_ _ a _ _ _=>xM rfl (a 13 rfl),λ_ _ _ _ _ e=>pI rfl Tryz.underlying50 b l j (L) (e.1 rfl) (e.2.1 rfl),λA _ _ _ _ he=>have h98:=eT 98 (he.1 rfl);pZ rfl,?_,λA _ _ _ hS he=>have hb:=hS rfl;have h95:=eT 95 (he.1 rfl);have h100:=eT 100 (he.2.1 rfl);have hf0:=eF A 17;cP (f:=17) (args:=#[v1,v9]) (cC _ _ _ (p4.on hb) (q9.on hb)),λA _ _ _ hS _=>have hb:=hS rfl;have hf0:=eF A 26;have hc0:=eC A (.int .i64 1);cP (f:=26) (args:=#[(.int .i64 1)]) (a8 _),?_,λA _ _ _ _ he=>have h103:=eT 103 (he.1 rfl);pZ rfl,trivial⟩ ?_
       ·intro A w1 hA hL hS he;have h99:=eT 99 (he.1 rfl);refine ae rfl ?_;have c0:=c9 w1 hL.below;exact aA rfl rfl gZ
       ·intro A w1 hA hL hS he;have hb:=hS rfl;obtain⟨v101,h101,f101⟩:=fT 101 (he.1 rfl);obtain⟨v102,h102,f102⟩:=fT 102 (he.2.1 rfl);have hf0:=eF A 13;exact cP (f:=13) (args:=#[v101,v102]) (a7 _ _ _ f101 f102)
       ·intro W5 hL5;simp only[aU,af.eq,af.poly,af.ret,af.of,lZ];rintro _ - _ -;go_frame;go_wp2;go_roundw
        case rel=>exact⟨j+1,oM,nM,m.trans (hL5.below.mono m.size)⟩
        case measure=>simp[intOf];omega
      ·have kj:¬((j:Int)<(i:Int)):=oM;clear a0 cN c1 a4 hj;have P4:=zH (P3.out.on m);have p4:=zH (p3.out.on m);have hb9:=hb8.trans (m.mono hb8.size);have c13:=zH (λW (hb:Below wr.heap.size wr W)=>c12.out W (m.trans (hb.mono m.size)));clear P3 p3 hb8 c12 m;obtain⟨w9,rfl⟩:∃w9:World,w9=wr:=⟨_,rfl⟩;go_wp2;clear kj
       go_loopw [10,14] (λvp X wr=>∃j:Nat,j<=N/\X=.int .i64 j/\Hid (ai wr vp (Pr i j))/\Below w9.heap.size w9 wr) (λ_ X _=>N-(intOf X).toNat)
       case atStart=>exact⟨0,oM,nM,P4,Below.refl _ _⟩
       case round =>
        clear P4;obtain⟨j,hj,rfl,r,m⟩:=hrel;have c0:=λW (hb:Below wr.heap.size wr W)=>c13.out W (m.trans (hb.mono m.size));by_cases ad:j<N
        ·have kj:(j:Int)<(N:Int):=oM;have mC:=zH (ap.out j ad);have p5:=zH (p4.out.on m)
         go_upto_region 19 with (fail)
         refine aN trivial (none) (0) (fM.none) [.eq (.int .i64 j),.eq (.slice (some ⟨b,l,none⟩) R.length C),.eq (.int .i64 i),.eq (.pointer (some ⟨b,l+i*2,none⟩)),.eq (.pointer (some ⟨b,l+i*2+1,none⟩)),.eq (.int .i64 N),.eq (.bool true)] [105,106,107,108,109,110,111] rfl rfl rfl rfl ⟨λ_ _ a _ _ _=>xM rfl (a 14 rfl),λ_ _ a _ _ _=>xM rfl (a 9 rfl),λ_ _ a _ _ _=>xM rfl (a 11 rfl),λ_ _ _ _ _ e=>pI rfl Tryz.underlying50 b l i (o) (e.1 rfl) (e.2.1 rfl),λA _ _ _ _ he=>have h108:=eT 108 (he.1 rfl);pZ rfl,?_,λA _ _ _ _ he=>have h105:=eT 105 (he.1 rfl);have h110:=eT 110 (he.2.1 rfl);pZ rfl,trivial⟩ ?_
         ·intro A w1 hA hL hS he;have h109:=eT 109 (he.1 rfl);refine ae rfl ?_;have c0:=c0 w1 hL.below;exact aA rfl rfl gZ
         ·intro W5 hL5;simp only[aU,af.eq,af.of,lZ];go_frame;have hb5:=hL5.below;have hP5:=r.out.on hb5;have p6:=p5.out.on hb5;clear hL5 c0
          go_wp2_with (go_at_call 12;refine(mC.out _ _ _ hP5 p6).mono ?_;rintro en w6 ⟨v6,rfl,h6,hb6⟩)
          have hb56:=hb5.trans (hb6.mono hb5.size);go_roundw
          case rel=>exact⟨j+1,oM,nM,zH h6,m.trans (hb56.mono m.size)⟩
          case measure=>simp[intOf];omega
        ·have kj:¬((j:Int)<(N:Int)):=oM;obtain rfl:j=N:=oM;rw[a9.out]at r
         go_upto_region 19 with (fail)
         refine aN trivial (none) (0) (fM.none) [.eq (.int .i64 j),.eq (.slice (some ⟨b,l,none⟩) R.length C),.eq (.int .i64 i),.eq (.pointer (some ⟨b,l+i*2,none⟩)),.eq (.pointer (some ⟨b,l+i*2+1,none⟩)),.eq (.int .i64 j),.eq (.bool false)] [105,106,107,108,109,110,111] rfl rfl rfl rfl ⟨λ_ _ a _ _ _=>xM rfl (a 14 rfl),λ_ _ a _ _ _=>xM rfl (a 9 rfl),λ_ _ a _ _ _=>xM rfl (a 11 rfl),λ_ _ _ _ _ e=>pI rfl Tryz.underlying50 b l i (o) (e.1 rfl) (e.2.1 rfl),λA _ _ _ _ he=>have h108:=eT 108 (he.1 rfl);pZ rfl,?_,λA _ _ _ _ he=>have h105:=eT 105 (he.1 rfl);have h110:=eT 110 (he.2.1 rfl);pZ rfl,trivial⟩ ?_
         ·intro A w1 hA hL hS he;have h109:=eT 109 (he.1 rfl);refine ae rfl ?_;have c0:=c0 w1 hL.below;exact aA rfl rfl gZ
         ·intro W5 hL5;simp only[aU,af.eq,af.of,lZ];go_frame;have hb5:=m.trans (hL5.below.mono m.size);have hP5:=zH (r.out.on hL5.below);clear hL5 c0 r;go_wp2;go_roundw
          case rel=>exact⟨i+1,oM,nM,hP5,hb9.trans (hb5.mono hb9.size)⟩
          case measure=>simp[intOf];omega
  ·obtain rfl:R.length=i:=oM;have ha8:=ha7.out.on n;have hP8:=hP.out;have hb00:=hb0.trans (n.mono hb0.size);rcases p.out with ⟨hd1,aa⟩|⟨hd1,cP,cN8,F⟩
   ·have hl0:((R.length:Int)==0)=true:=by rw[aa];rfl
    clear p s cN c1 hP hR
    go_wp2_with (go_at_call 27;refine(cD.out _ _ ha8).mono ?_;rintro en w8 ⟨rfl,hb8⟩)
    go_ret;exact⟨rfl,hb00.trans (hb8.mono hb00.size)⟩
   ·replace cP:=zH cP;replace cN8:=zH cN8;replace F:=zH F;clear p s cN c1 hP hR
    go_wp2_with (first
     | (go_at_call 27;refine(cD.out _ _ ha8).mono ?_;rintro en w8 ⟨rfl,hb8⟩)
     | (go_at_call 21;refine(cP.out _ _ (ha8.on hb8)).mono ?_;rintro en w9 ⟨v9,rfl,h9,hb9⟩)
     | (go_at_call 15;refine(cN8.out _ _ h9).mono ?_;rintro en wa ⟨v8,rfl,h8,J⟩)
     | (go_at_call 13;refine(F.out _ _ _ (hP8.on (hb8.trans ((hb9.trans (J.mono hb9.size)).mono hb8.size))) h8).mono ?_;rintro en wb ⟨rfl,ab⟩))
    go_ret;have ac:=hb8.trans (((hb9.trans (J.mono hb9.size)).trans (ab.mono (hb9.trans (J.mono hb9.size)).size)).mono hb8.size);exact⟨rfl,hb00.trans (ac.mono hb00.size)⟩
end Go.Proofs.YtopclbeomcggiaaGreat
