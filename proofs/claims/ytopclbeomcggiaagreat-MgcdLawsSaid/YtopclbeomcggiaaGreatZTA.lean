/- law08.MgcdLaws: the walk. -/
import Derived.Test.YtopclbeomcggiaaGreatZ36
import Derived.Test.YtopclbeomcggiaaGreatZSJ
import Derived.Test.YtopclbeomcggiaaGreatZSM
set_option linter.unusedVariables false
set_option linter.unusedSimpArgs false
set_option maxHeartbeats 16000000
set_option maxRecDepth 100000
namespace Go.Proofs.YtopclbeomcggiaaGreat
open Go.RowKit Q Go.WideMaps Go.Maps
theorem Jo(d i j:Value)(a b c g h k n n':List ai)(sg G I B s sc:Sz)(w:World)(D:Pk sc a)(Kb:Pk sc b)(y:Pk sc c)(o1:(sc.mul sc).ok)(m:Pk sg g)(F:Pk G h)(z:Pk I k)(r:Pk B n)(o:Pk s n')(o2:(B.mul sg).ok)
  (m1:Hid (∀W,Below w.heap.size w W->Calls Tryz.prog 11 #[d] W (aN W a)))
  (m2:Hid (∀W,Below w.heap.size w W->Calls Tryz.prog 11 #[i] W (aN W b)))
  (m3:Hid (∀W,Below w.heap.size w W->Calls Tryz.prog 11 #[j] W (aN W c)))
  (g1:Hid (∀W u v,aj W u a->aj W v b->Calls Tryz.prog 16 #[u,v] W (aN W g)))
  (g2:Hid (∀W u v,aj W u b->aj W v c->Calls Tryz.prog 16 #[u,v] W (aN W h)))
  (g3:Hid (∀W u v,aj W u (aO a c)->aj W v (aO b c)->Calls Tryz.prog 16 #[u,v] W (aN W (aO n g))))
  (g4:Hid (∀W u v,aj W u b->aj W v a->Calls Tryz.prog 16 #[u,v] W (aN W g)))
  (g5:Hid (∀W u v,aj W u g->aj W v c->Calls Tryz.prog 16 #[u,v] W (aN W k)))
  (g6:Hid (∀W u v,aj W u a->aj W v h->Calls Tryz.prog 16 #[u,v] W (aN W k)))
  (g7:Hid (∀W u v,aj W u a->aj W v a->Calls Tryz.prog 16 #[u,v] W (aN W n')))
  (n1:Hid (∀W u,aj W u c->Calls Tryz.prog 14 #[u] W (aN W n)))
  (n2:Hid (∀W u,aj W u a->Calls Tryz.prog 14 #[u] W (aN W n'))) :
  Calls Tryz.prog 5 #[.agg #[d,i,j]] w (oP w (.bool true)):=by
 go_enter Tryz.func5,Tryz.ntmps5
 go_upto_region 2 with (go_at_call 10;refine(oO _).mono ?_;rintro e w1 ⟨rfl,hb1⟩)
 have l:=(Below.refl w.heap.size w).alloc (nL _) (.cells #[d,i,j] 24);have hb0:=l.trans (hb1.mono l.size);have p:Blk w1 w.heap.size 24 [d,i,j]:=(show Blk (w.alloc (.cells #[d,i,j] 24)) w.heap.size 24 [d,i,j]from Blk.new w _ [d,i,j]).on hb1;refine aD mixed (none) (0) (eQ.none) [.eq (.pointer (some ⟨w.heap.size,0,none⟩)),.eq (d),.poly dM dM (a),.eq (.pointer (some ⟨w.heap.size,1,none⟩)),.eq (i),.poly dM dM (b),.eq (.pointer (some ⟨w.heap.size,2,none⟩)),.eq (j),.poly dM dM (c)] [12,13,14,15,16,17,18,19,20] rfl rfl rfl rfl ⟨λA _ hA _ _ _=>have h1:A.eval (.tmp 1)=.pointer (some ⟨w.heap.size,0,none⟩):=hA 1 rfl;pZ rfl,λA _ _ hL _ he=>have hb:=hL.below;have h12:=eT 12 (he.1 rfl);have c0:=((p).on hb).at1 0 _ rfl;pZ rfl,λA _ _ _ hS he=>have hb:=hS rfl;have h13:=eT 13 (he.1 rfl);have hf0:=eF A 11;cP (f:=11) (args:=#[d]) (m1.out _ (hb0.trans (hb.mono hb0.size))),λA _ hA _ _ _=>have h1:A.eval (.tmp 1)=.pointer (some ⟨w.heap.size,0,none⟩):=hA 1 rfl;pZ rfl,λA _ _ hL _ he=>have hb:=hL.below;have h15:=eT 15 (he.1 rfl);have c0:=((p).on hb).at1 1 _ rfl;pZ rfl,λA _ _ _ hS he=>have hb:=hS rfl;have h16:=eT 16 (he.1 rfl);have hf0:=eF A 11;cP (f:=11) (args:=#[i]) (m2.out _ (hb0.trans (hb.mono hb0.size))),λA _ hA _ _ _=>have h1:A.eval (.tmp 1)=.pointer (some ⟨w.heap.size,0,none⟩):=hA 1 rfl;pZ rfl,λA _ _ hL _ he=>have hb:=hL.below;have h18:=eT 18 (he.1 rfl);have c0:=((p).on hb).at1 2 _ rfl;pZ rfl,λA _ _ _ hS he=>have hb:=hS rfl;have h19:=eT 19 (he.1 rfl);have hf0:=eF A 11;cP (f:=11) (args:=#[j]) (m3.out _ (hb0.trans (hb.mono hb0.size))),trivial⟩ ?_
 intro w2 hL;simp only[aQ,ae.eq,ae.poly,ae.ret,ae.of,lZ];rintro va ha vb hB vc hc;go_frame;have hb:=hL.below;replace hb0:=hb0.trans (hb.mono hb0.size);clear hL hb m1 m2 m3 l hb1 p
 go_upto_region 3 with (fail)
 refine aI trivial (none) (0) (eQ.none) [.eq (va),.eq (vb),.poly dM dM (g),.eq (vb),.eq (vc),.poly dM dM (h)] [21,22,23,24,25,26] rfl rfl rfl rfl ⟨λ_ _ a _ _ _=>xM rfl (a 4 rfl),λ_ _ a _ _ _=>xM rfl (a 5 rfl),λA _ _ _ hS he=>have hb:=hS rfl;have h21:=eT 21 (he.1 rfl);have h22:=eT 22 (he.2.1 rfl);have hf0:=eF A 16;cP (f:=16) (args:=#[va,vb]) (g1.out _ _ _ (ha.on hb) (hB.on hb)),λ_ _ a _ _ _=>xM rfl (a 5 rfl),λ_ _ a _ _ _=>xM rfl (a 6 rfl),λA _ _ _ hS he=>have hb:=hS rfl;have h24:=eT 24 (he.1 rfl);have h25:=eT 25 (he.2.1 rfl);have hf0:=eF A 16;cP (f:=16) (args:=#[vb,vc]) (g2.out _ _ _ (hB.on hb) (hc.on hb)),trivial⟩ ?_;intro w3 hL;simp only[aQ,ae.eq,ae.poly,ae.ret,ae.of,lZ];rintro vg hg vh hh;go_frame;have hb:=hL.below;replace hb0:=hb0.trans (hb.mono hb0.size);replace ha:=ha.on hb;replace hB:=hB.on hb;replace hc:=hc.on hb;clear hL hb g1 g2
 go_upto_region 4 with (fail)
 refine aI trivial (none) (0) (eQ.none) [.eq (vg),.ret (.bool true),.eq (.bool false),.eq (.bool false),.eq (vh),.ret (.bool true),.eq (.bool false),.eq (.bool false)] [27,28,29,30,31,32,33,34] rfl rfl rfl rfl ⟨λ_ _ a _ _ _=>xM rfl (a 7 rfl),λA _ _ _ hS he=>have hb:=hS rfl;have h27:=eT 27 (he.1 rfl);have hf0:=eF A 22;cP (f:=22) (args:=#[vg]) (um m (hg.on hb)),λA _ _ _ _ he=>have h28:=eT 28 (he.1 rfl);pZ rfl,λ_ _ _ _ _ e=>xM rfl (e.1 rfl),λ_ _ a _ _ e=>yM (e.1 rfl) rfl (a 8 rfl),λA _ _ _ hS he=>have hb:=hS rfl;have h30:=eT 30 (he.2.1 rfl);have h31:=eT 31 (he.1 rfl);have hf0:=eF A 22;cY (f:=22) (args:=#[vh]) h30 (um F (hh.on hb)),λA _ _ _ _ he=>have h30:=eT 30 (he.2.1 rfl);have h32:=eT 32 (he.1 rfl);yZ h30 rfl,λ_ _ _ _ _ e=>pK rfl (e.1 rfl) (e.2.1 rfl),trivial⟩ ?_;intro w4 hL;simp only[aQ,ae.eq,ae.poly,ae.ret,ae.of,lZ];go_frame;have hb:=hL.below;replace hb0:=hb0.trans (hb.mono hb0.size);replace ha:=ha.on hb;replace hB:=hB.on hb;replace hc:=hc.on hb;replace hg:=hg.on hb;replace hh:=hh.on hb;clear hL hb
 go_upto_region 6 with (fail)
 refine aI trivial (none) (0) (eQ.none) [.eq (va),.eq (vc),.poly dM dM ((aO a c)),.eq (vb),.eq (vc),.poly dM dM ((aO b c)),.poly dM dM ((aO n g))] [35,36,37,38,39,40,41] rfl rfl rfl rfl ⟨λ_ _ a _ _ _=>xM rfl (a 4 rfl),λ_ _ a _ _ _=>xM rfl (a 6 rfl),λA _ _ _ hS he=>have hb:=hS rfl;have h35:=eT 35 (he.1 rfl);have h36:=eT 36 (he.2.1 rfl);have hf0:=eF A 12;cP (f:=12) (args:=#[va,vc]) (uz D y o1 (ha.on hb) (hc.on hb)),λ_ _ a _ _ _=>xM rfl (a 5 rfl),λ_ _ a _ _ _=>xM rfl (a 6 rfl),λA _ _ _ hS he=>have hb:=hS rfl;have h38:=eT 38 (he.1 rfl);have h39:=eT 39 (he.2.1 rfl);have hf0:=eF A 12;cP (f:=12) (args:=#[vb,vc]) (uz Kb y o1 (hB.on hb) (hc.on hb)),?_,trivial⟩ ?_
 ·intro A w1 hA hL hS he;have hb:=hS rfl;obtain⟨v37,h37,f37⟩:=fT 37 (he.1 rfl);obtain⟨v40,h40,f40⟩:=fT 40 (he.2.1 rfl);have hf0:=eF A 16;exact cP (f:=16) (args:=#[v37,v40]) (g3.out _ _ _ f37 f40)
 intro w5 hL;simp only[aQ,ae.eq,ae.poly,ae.ret,ae.of,lZ];rintro _ - _ - v9 h9;go_frame;have hb:=hL.below;replace hb0:=hb0.trans (hb.mono hb0.size);replace ha:=ha.on hb;replace hB:=hB.on hb;replace hc:=hc.on hb;replace hg:=hg.on hb;replace hh:=hh.on hb;clear hL hb g3
 go_upto_region 10 with (first
  | (go_at_call 14;refine(n1.out _ _ hc).mono ?_;rintro e w6 ⟨C,rfl,q,hb6⟩)
  | (go_at_call 22;refine(um r q).mono ?_;rintro e w7 ⟨rfl,hb7⟩))
 have hb:=hb6.trans (hb7.mono hb6.size);replace hb0:=hb0.trans (hb.mono hb0.size);replace ha:=ha.on hb;replace hB:=hB.on hb;replace hc:=hc.on hb;replace hg:=hg.on hb;replace hh:=hh.on hb;replace h9:=h9.on hb;replace q:=q.on hb7;clear hb hb6 hb7 n1;have x:=r.mul m o2;refine aI trivial (none) (0) (eQ.none) (.eq (vg)::.eq (vb)::.eq (va)::.poly dM dM (g)::.ret (.bool true)::.eq (.bool true)::.eq (vg)::.eq (vc)::.poly dM dM (k)::.eq (va)::.eq (vh)::.poly dM dM (k)::.ret (.bool true)::.eq (.bool true)::.eq (.bool true)::.eq (v9)::.eq (C)::.eq (vg)::.poly dM dM ((aO n g))::.ret (.bool true)::.eq (.bool true)::.eq (.bool true)::.eq (va)::.eq (va)::.poly dM dM (n')::.eq (va)::.poly dM dM (n')::.ret (.bool true)::.eq (.bool true)::.eq (.bool true)::.eq (.bool true)::.eq (.bool true)::[]) (47::48::49::50::51::52::53::54::55::56::57::58::59::60::61::62::63::64::65::66::67::68::69::70::71::72::73::74::75::76::77::78::[]) rfl rfl rfl rfl ⟨?_,?_,?_,?_,?_,?_,?_,?_,?_,?_,?_,?_,?_,?_,?_,?_,?_,?_,?_,?_,?_,?_,?_,?_,?_,?_,?_,?_,?_,?_,?_,?_,trivial⟩ ?_
 ·exact λ_ _ a _ _ _=>xM rfl (a 7 rfl)
 ·exact λ_ _ a _ _ _=>xM rfl (a 5 rfl)
 ·exact λ_ _ a _ _ _=>xM rfl (a 4 rfl)
 ·intro A w1 hA hL hS he;have hb:=hS rfl;have h48:=eT 48 (he.1 rfl);have h49:=eT 49 (he.2.1 rfl);have hf0:=eF A 16;exact cP (f:=16) (args:=#[vb,va]) (g4.out _ _ _ (hB.on hb) (ha.on hb))
 ·intro A w1 hA hL hS he;have hb:=hS rfl;have h47:=eT 47 (he.1 rfl);obtain⟨v50,h50,f50⟩:=fT 50 (he.2.1 rfl);have hf0:=eF A 13;exact cP (f:=13) (args:=#[vg,v50]) (sK m m rfl (hg.on hb) f50)
 ·exact λ_ _ _ _ _ e=>xM rfl (e.1 rfl)
 ·exact λ_ _ a _ _ e=>yM (e.1 rfl) rfl (a 7 rfl)
 ·exact λ_ _ a _ _ e=>yM (e.1 rfl) rfl (a 6 rfl)
 ·intro A w1 hA hL hS he;have hb:=hS rfl;have h52:=eT 52 (he.2.2.1 rfl);have h53:=eT 53 (he.1 rfl);have h54:=eT 54 (he.2.1 rfl);have hf0:=eF A 16;exact cY (f:=16) (args:=#[vg,vc]) h52 (g5.out _ _ _ (hg.on hb) (hc.on hb))
 ·exact λ_ _ a _ _ e=>yM (e.1 rfl) rfl (a 4 rfl)
 ·exact λ_ _ a _ _ e=>yM (e.1 rfl) rfl (a 8 rfl)
 ·intro A w1 hA hL hS he;have hb:=hS rfl;have h52:=eT 52 (he.2.2.2.1 rfl);have h56:=eT 56 (he.1 rfl);have h57:=eT 57 (he.2.1 rfl);have hf0:=eF A 16;exact cY (f:=16) (args:=#[va,vh]) h52 (g6.out _ _ _ (ha.on hb) (hh.on hb))
 ·intro A w1 hA hL hS he;have hb:=hS rfl;have h52:=eT 52 (he.2.2.2.1 rfl);obtain⟨v55,h55,f55⟩:=fT 55 (he.1 rfl);obtain⟨v58,h58,f58⟩:=fT 58 (he.2.1 rfl);have hf0:=eF A 13;exact cY (f:=13) (args:=#[v55,v58]) h52 (sK z z rfl f55 f58)
 ·intro A w1 hA hL hS he;have h52:=eT 52 (he.1 rfl);have h59:=eT 59 (he.2.1 rfl);have hc0:=eC A (.bool false);exact pZ rfl
 ·exact λ_ _ _ _ _ e=>xM rfl (e.1 rfl)
 ·exact λ_ _ a _ _ e=>yM (e.1 rfl) rfl (a 9 rfl)
 ·exact λ_ _ a _ _ e=>yM (e.1 rfl) rfl (a 10 rfl)
 ·exact λ_ _ a _ _ e=>yM (e.1 rfl) rfl (a 7 rfl)
 ·intro A w1 hA hL hS he;have hb:=hS rfl;have h61:=eT 61 (he.2.2.1 rfl);have h63:=eT 63 (he.1 rfl);have h64:=eT 64 (he.2.1 rfl);have hf0:=eF A 12;exact cY (f:=12) (args:=#[C,vg]) h61 (uz r m o2 (q.on hb) (hg.on hb))
 ·intro A w1 hA hL hS he;have hb:=hS rfl;have h61:=eT 61 (he.2.2.2.1 rfl);have h62:=eT 62 (he.1 rfl);obtain⟨v65,h65,f65⟩:=fT 65 (he.2.1 rfl);have hf0:=eF A 13;exact cY (f:=13) (args:=#[v9,v65]) h61 (sK x x rfl (h9.on hb) f65)
 ·intro A w1 hA hL hS he;have h61:=eT 61 (he.1 rfl);have h66:=eT 66 (he.2.1 rfl);have hc0:=eC A (.bool false);exact pZ rfl
 ·exact λ_ _ _ _ _ e=>xM rfl (e.1 rfl)
 ·exact λ_ _ a _ _ e=>yM (e.1 rfl) rfl (a 4 rfl)
 ·exact λ_ _ a _ _ e=>yM (e.1 rfl) rfl (a 4 rfl)
 ·intro A w1 hA hL hS he;have hb:=hS rfl;have h68:=eT 68 (he.2.2.1 rfl);have h69:=eT 69 (he.1 rfl);have h70:=eT 70 (he.2.1 rfl);have hf0:=eF A 16;exact cY (f:=16) (args:=#[va,va]) h68 (g7.out _ _ _ (ha.on hb) (ha.on hb))
 ·exact λ_ _ a _ _ e=>yM (e.1 rfl) rfl (a 4 rfl)
 ·intro A w1 hA hL hS he;have hb:=hS rfl;have h68:=eT 68 (he.2.2.1 rfl);have h72:=eT 72 (he.1 rfl);have hf0:=eF A 14;exact cY (f:=14) (args:=#[va]) h68 (n2.out _ _ (ha.on hb))
 ·intro A w1 hA hL hS he;have hb:=hS rfl;have h68:=eT 68 (he.2.2.2.1 rfl);obtain⟨v71,h71,f71⟩:=fT 71 (he.1 rfl);obtain⟨v73,h73,f73⟩:=fT 73 (he.2.1 rfl);have hf0:=eF A 13;exact cY (f:=13) (args:=#[v71,v73]) h68 (sK o o rfl f71 f73)
 ·intro A w1 hA hL hS he;have h68:=eT 68 (he.1 rfl);have h74:=eT 74 (he.2.1 rfl);have hc0:=eC A (.bool false);exact pZ rfl
 ·exact λ_ _ _ _ _ e=>xM rfl (e.1 rfl)
 ·exact λ_ _ a _ _ e=>yM (e.1 rfl) rfl (a 3 rfl)
 ·intro A w1 hA hL hS he;have h76:=eT 76 (he.1 rfl);have h77:=eT 77 (he.2.1 rfl);have hc0:=eC A (.bool false);exact pZ rfl
 intro w9 hL;simp only[aQ,ae.eq,ae.poly,ae.ret,ae.of,lZ];rintro _ - _ - _ - _ - _ - _ -;go_frame;replace hb0:=hb0.trans (hL.below.mono hb0.size);clear hL;go_wp2;go_ret;exact⟨rfl,hb0⟩
end Go.Proofs.YtopclbeomcggiaaGreat
