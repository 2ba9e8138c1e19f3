/- law08.MgcdLaws: the walk. -/
import Derived.Test.YtopclbeomcggiaaGreatC02
import Derived.Test.YtopclbeomcggiaaGreatC20
import Derived.Test.YtopclbeomcggiaaGreatC38
import Derived.Test.YtopclbeomcggiaaGreatCSJ
import Derived.Test.YtopclbeomcggiaaGreatCSM
set_option linter.unusedVariables false
set_option linter.unusedSimpArgs false
set_option maxHeartbeats 16000000
set_option maxRecDepth 100000
namespace Go.Proofs.YtopclbeomcggiaaGreat
open Go.RowKit Q Go.WideMaps Go.Maps
theorem gcdlaws_main (sA sB sC:Value) (a b c g h k n n':List Trm) (sg sh sk sn sn' sc:Sz) (w:World) (Ka:Pk sc a) (Kb:Pk sc b) (Kc:Pk sc c) (o1:(sc.mul sc).ok) (Kg:Pk sg g) (Kh:Pk sh h) (Kk:Pk sk k) (Kn:Pk sn n) (Kn':Pk sn' n') (o2:(sn.mul sg).ok)
  (m1:Hid (∀ W,Below w.heap.size w W->Calls Tryz.prog 11 #[sA] W (RetPoly W a)))
  (m2:Hid (∀ W,Below w.heap.size w W->Calls Tryz.prog 11 #[sB] W (RetPoly W b)))
  (m3:Hid (∀ W,Below w.heap.size w W->Calls Tryz.prog 11 #[sC] W (RetPoly W c)))
  (g1:Hid (∀ W u v,IsPoly W u a->IsPoly W v b->Calls Tryz.prog 16 #[u,v] W (RetPoly W g)))
  (g2:Hid (∀ W u v,IsPoly W u b->IsPoly W v c->Calls Tryz.prog 16 #[u,v] W (RetPoly W h)))
  (g3:Hid (∀ W u v,IsPoly W u (mulP a c)->IsPoly W v (mulP b c)->Calls Tryz.prog 16 #[u,v] W (RetPoly W (mulP n g))))
  (g4:Hid (∀ W u v,IsPoly W u b->IsPoly W v a->Calls Tryz.prog 16 #[u,v] W (RetPoly W g)))
  (g5:Hid (∀ W u v,IsPoly W u g->IsPoly W v c->Calls Tryz.prog 16 #[u,v] W (RetPoly W k)))
  (g6:Hid (∀ W u v,IsPoly W u a->IsPoly W v h->Calls Tryz.prog 16 #[u,v] W (RetPoly W k)))
  (g7:Hid (∀ W u v,IsPoly W u a->IsPoly W v a->Calls Tryz.prog 16 #[u,v] W (RetPoly W n')))
  (n1:Hid (∀ W u,IsPoly W u c->Calls Tryz.prog 14 #[u] W (RetPoly W n)))
  (n2:Hid (∀ W u,IsPoly W u a->Calls Tryz.prog 14 #[u] W (RetPoly W n'))) :
  Calls Tryz.prog 5 #[.agg #[sA,sB,sC]] w (Ret w (.bool true)):=by
 go_enter Tryz.func5,Tryz.ntmps5
 go_upto_region 2 with (go_at_call 10;refine (sanity8_any _).mono ?_;rintro e w1 ⟨rfl,hb1⟩)
 have hbA:=(Below.refl w.heap.size w).alloc (Nat.le_refl _) (.cells #[sA,sB,sC] 24);have hb0:=hbA.trans (hb1.mono hbA.size);have BB:Blk w1 w.heap.size 24 [sA,sB,sC]:=(show Blk (w.alloc (.cells #[sA,sB,sC] 24)) w.heap.size 24 [sA,sB,sC] from Blk.new w _ [sA,sB,sC]).on hb1;refine wp_region_L mixed (none) (0) (Okr.none) [.eq (.pointer (some ⟨w.heap.size,0,none⟩)),.eq (sA),.poly (by decide) (by decide) (a),.eq (.pointer (some ⟨w.heap.size,1,none⟩)),.eq (sB),.poly (by decide) (by decide) (b),.eq (.pointer (some ⟨w.heap.size,2,none⟩)),.eq (sC),.poly (by decide) (by decide) (c)] [12,13,14,15,16,17,18,19,20] rfl rfl rfl rfl ⟨?_,?_,?_,?_,?_,?_,?_,?_,?_,trivial⟩ ?_
 ·intro A w1 hA hL hS he;have h1:A.eval (.tmp 1)=.pointer (some ⟨w.heap.size,0,none⟩):=hA 1 rfl;exact pZ rfl
 ·intro A w1 hA hL hS he;have hb:=hL.below;have h12:=eT 12 (he.1 rfl);have c0:=((BB).on hb).at1 0 _ rfl;exact pZ rfl
 ·intro A w1 hA hL hS he;have hb:=hS rfl;have h13:=eT 13 (he.1 rfl);have hf0:=eF A 11;exact cP (f:=11) (args:=#[sA]) (m1.out _ (hb0.trans (hb.mono hb0.size)))
 ·intro A w1 hA hL hS he;have h1:A.eval (.tmp 1)=.pointer (some ⟨w.heap.size,0,none⟩):=hA 1 rfl;exact pZ rfl
 ·intro A w1 hA hL hS he;have hb:=hL.below;have h15:=eT 15 (he.1 rfl);have c0:=((BB).on hb).at1 1 _ rfl;exact pZ rfl
 ·intro A w1 hA hL hS he;have hb:=hS rfl;have h16:=eT 16 (he.1 rfl);have hf0:=eF A 11;exact cP (f:=11) (args:=#[sB]) (m2.out _ (hb0.trans (hb.mono hb0.size)))
 ·intro A w1 hA hL hS he;have h1:A.eval (.tmp 1)=.pointer (some ⟨w.heap.size,0,none⟩):=hA 1 rfl;exact pZ rfl
 ·intro A w1 hA hL hS he;have hb:=hL.below;have h18:=eT 18 (he.1 rfl);have c0:=((BB).on hb).at1 2 _ rfl;exact pZ rfl
 ·intro A w1 hA hL hS he;have hb:=hS rfl;have h19:=eT 19 (he.1 rfl);have hf0:=eF A 11;exact cP (f:=11) (args:=#[sC]) (m3.out _ (hb0.trans (hb.mono hb0.size)))
 intro w2 hL;simp only [TailL,FactL.eq,FactL.poly,FactL.ret,FactL.of,List.length_cons,List.length_nil,List.drop_succ_cons,List.drop_zero];rintro va ha vb hB vc hc;go_frame;have hb:=hL.below;replace hb0:=hb0.trans (hb.mono hb0.size);clear hL hb m1 m2 m3 hbA hb1 BB
 go_upto_region 3 with (fail)
 refine wp_region_S trivial (none) (0) (Okr.none) [.eq (va),.eq (vb),.poly (by decide) (by decide) (g),.eq (vb),.eq (vc),.poly (by decide) (by decide) (h)] [21,22,23,24,25,26] rfl rfl rfl rfl ⟨?_,?_,?_,?_,?_,?_,trivial⟩ ?_
 ·exact fun _ _ a _ _ _=>xM rfl (a 4 rfl)
 ·exact fun _ _ a _ _ _=>xM rfl (a 5 rfl)
 ·intro A w1 hA hL hS he;have hb:=hS rfl;have h21:=eT 21 (he.1 rfl);have h22:=eT 22 (he.2.1 rfl);have hf0:=eF A 16;exact cP (f:=16) (args:=#[va,vb]) (g1.out _ _ _ (ha.on hb) (hB.on hb))
 ·exact fun _ _ a _ _ _=>xM rfl (a 5 rfl)
 ·exact fun _ _ a _ _ _=>xM rfl (a 6 rfl)
 ·intro A w1 hA hL hS he;have hb:=hS rfl;have h24:=eT 24 (he.1 rfl);have h25:=eT 25 (he.2.1 rfl);have hf0:=eF A 16;exact cP (f:=16) (args:=#[vb,vc]) (g2.out _ _ _ (hB.on hb) (hc.on hb))
 intro w3 hL;simp only [TailL,FactL.eq,FactL.poly,FactL.ret,FactL.of,List.length_cons,List.length_nil,List.drop_succ_cons,List.drop_zero];rintro vg hg vh hh;go_frame;have hb:=hL.below;replace hb0:=hb0.trans (hb.mono hb0.size);replace ha:=ha.on hb;replace hB:=hB.on hb;replace hc:=hc.on hb;clear hL hb g1 g2
 go_upto_region 4 with (fail)
 refine wp_region_S trivial (none) (0) (Okr.none) [.eq (vg),.ret (.bool true),.eq (.bool false),.eq (.bool false),.eq (vh),.ret (.bool true),.eq (.bool false),.eq (.bool false)] [27,28,29,30,31,32,33,34] rfl rfl rfl rfl ⟨?_,?_,?_,?_,?_,?_,?_,?_,trivial⟩ ?_
 ·exact fun _ _ a _ _ _=>xM rfl (a 7 rfl)
 ·intro A w1 hA hL hS he;have hb:=hS rfl;have h27:=eT 27 (he.1 rfl);have hf0:=eF A 22;refine goOn_plain rfl ?_;refine stepG_call (f:=22) (args:=#[vg]) rfl rfl ?_ ?_
  ·exact gZ
  ·refine (valid7K Kg (hg.on hb)).mono ?_;rintro e w' ⟨rfl,hb'⟩;exact⟨_,rfl,hb',rfl⟩
 ·intro A w1 hA hL hS he;have h28:=eT 28 (he.1 rfl);exact pZ rfl
 ·exact fun _ _ _ _ _ e=>xM rfl (e.1 rfl)
 ·exact fun _ _ a _ _ e=>yM (e.1 rfl) rfl (a 8 rfl)
 ·intro A w1 hA hL hS he;have hb:=hS rfl;have h30:=eT 30 (he.2.1 rfl);have h31:=eT 31 (he.1 rfl);have hf0:=eF A 22;refine goOn_yes rfl rfl h30 ?_;refine stepG_call (f:=22) (args:=#[vh]) rfl rfl ?_ ?_
  ·exact gZ
  ·refine (valid7K Kh (hh.on hb)).mono ?_;rintro e w' ⟨rfl,hb'⟩;exact⟨_,rfl,hb',rfl⟩
 ·intro A w1 hA hL hS he;have h30:=eT 30 (he.2.1 rfl);have h32:=eT 32 (he.1 rfl);exact yZ h30 rfl
 ·exact fun _ _ _ _ _ e=>goOn_plain rfl (stepG_pk rfl (e.1 rfl) rfl (e.2.1 rfl))
 intro w4 hL;simp only [TailL,FactL.eq,FactL.poly,FactL.ret,FactL.of,List.length_cons,List.length_nil,List.drop_succ_cons,List.drop_zero];go_frame;have hb:=hL.below;replace hb0:=hb0.trans (hb.mono hb0.size);replace ha:=ha.on hb;replace hB:=hB.on hb;replace hc:=hc.on hb;replace hg:=hg.on hb;replace hh:=hh.on hb;clear hL hb
 go_upto_region 6 with (fail)
 refine wp_region_S trivial (none) (0) (Okr.none) [.eq (va),.eq (vc),.poly (by decide) (by decide) ((mulP a c)),.eq (vb),.eq (vc),.poly (by decide) (by decide) ((mulP b c)),.poly (by decide) (by decide) ((mulP n g))] [35,36,37,38,39,40,41] rfl rfl rfl rfl ⟨?_,?_,?_,?_,?_,?_,?_,trivial⟩ ?_
 ·exact fun _ _ a _ _ _=>xM rfl (a 4 rfl)
 ·exact fun _ _ a _ _ _=>xM rfl (a 6 rfl)
 ·intro A w1 hA hL hS he;have hb:=hS rfl;have h35:=eT 35 (he.1 rfl);have h36:=eT 36 (he.2.1 rfl);have hf0:=eF A 12;exact cP (f:=12) (args:=#[va,vc]) (mul7K Ka Kc o1 (ha.on hb) (hc.on hb))
 ·exact fun _ _ a _ _ _=>xM rfl (a 5 rfl)
 ·exact fun _ _ a _ _ _=>xM rfl (a 6 rfl)
 ·intro A w1 hA hL hS he;have hb:=hS rfl;have h38:=eT 38 (he.1 rfl);have h39:=eT 39 (he.2.1 rfl);have hf0:=eF A 12;exact cP (f:=12) (args:=#[vb,vc]) (mul7K Kb Kc o1 (hB.on hb) (hc.on hb))
 ·intro A w1 hA hL hS he;have hb:=hS rfl;obtain⟨v37,h37,f37⟩:=fT 37 (he.1 rfl);obtain⟨v40,h40,f40⟩:=fT 40 (he.2.1 rfl);have hf0:=eF A 16;exact cP (f:=16) (args:=#[v37,v40]) (g3.out _ _ _ f37 f40)
 intro w5 hL;simp only [TailL,FactL.eq,FactL.poly,FactL.ret,FactL.of,List.length_cons,List.length_nil,List.drop_succ_cons,List.drop_zero];rintro _ - _ - v9 h9;go_frame;have hb:=hL.below;replace hb0:=hb0.trans (hb.mono hb0.size);replace ha:=ha.on hb;replace hB:=hB.on hb;replace hc:=hc.on hb;replace hg:=hg.on hb;replace hh:=hh.on hb;clear hL hb g3
 go_upto_region 10 with (first
 |(go_at_call 14;refine (n1.out _ _ hc).mono ?_;rintro e w6 ⟨vn,rfl,hn,hb6⟩)
 |(go_at_call 22;refine (valid7K Kn hn).mono ?_;rintro e w7 ⟨rfl,hb7⟩))
 have hb:=hb6.trans (hb7.mono hb6.size);replace hb0:=hb0.trans (hb.mono hb0.size);replace ha:=ha.on hb;replace hB:=hB.on hb;replace hc:=hc.on hb;replace hg:=hg.on hb;replace hh:=hh.on hb;replace h9:=h9.on hb;replace hn:=hn.on hb7;clear hb hb6 hb7 n1;have KM:=Kn.mul Kg o2;refine wp_region_S trivial (none) (0) (Okr.none) [.eq (vg),.eq (vb),.eq (va),.poly (by decide) (by decide) (g),.ret (.bool true),.eq (.bool true),.eq (vg),.eq (vc),.poly (by decide) (by decide) (k),.eq (va),.eq (vh),.poly (by decide) (by decide) (k),.ret (.bool true),.eq (.bool true),.eq (.bool true),.eq (v9),.eq (vn),.eq (vg),.poly (by decide) (by decide) ((mulP n g)),.ret (.bool true),.eq (.bool true),.eq (.bool true),.eq (va),.eq (va),.poly (by decide) (by decide) (n'),.eq (va),.poly (by decide) (by decide) (n'),.ret (.bool true),.eq (.bool true),.eq (.bool true),.eq (.bool true),.eq (.bool true)] [47,48,49,50,51,52,53,54,55,56,57,58,59,60,61,62,63,64,65,66,67,68,69,70,71,72,73,74,75,76,77,78] rfl rfl rfl rfl ⟨?_,?_,?_,?_,?_,?_,?_,?_,?_,?_,?_,?_,?_,?_,?_,?_,?_,?_,?_,?_,?_,?_,?_,?_,?_,?_,?_,?_,?_,?_,?_,?_,trivial⟩ ?_
 ·exact fun _ _ a _ _ _=>xM rfl (a 7 rfl)
 ·exact fun _ _ a _ _ _=>xM rfl (a 5 rfl)
 ·exact fun _ _ a _ _ _=>xM rfl (a 4 rfl)
 ·intro A w1 hA hL hS he;have hb:=hS rfl;have h48:=eT 48 (he.1 rfl);have h49:=eT 49 (he.2.1 rfl);have hf0:=eF A 16;exact cP (f:=16) (args:=#[vb,va]) (g4.out _ _ _ (hB.on hb) (ha.on hb))
 ·intro A w1 hA hL hS he;have hb:=hS rfl;have h47:=eT 47 (he.1 rfl);obtain⟨v50,h50,f50⟩:=fT 50 (he.2.1 rfl);have hf0:=eF A 13;refine goOn_plain rfl ?_;refine stepG_call (f:=13) (args:=#[vg,v50]) rfl rfl ?_ ?_
  ·exact gZ
  ·refine (sameK Kg Kg rfl (hg.on hb) f50).mono ?_;rintro e w' ⟨rfl,hb'⟩;exact⟨_,rfl,hb',rfl⟩
 ·exact fun _ _ _ _ _ e=>xM rfl (e.1 rfl)
 ·exact fun _ _ a _ _ e=>yM (e.1 rfl) rfl (a 7 rfl)
 ·exact fun _ _ a _ _ e=>yM (e.1 rfl) rfl (a 6 rfl)
 ·intro A w1 hA hL hS he;have hb:=hS rfl;have h52:=eT 52 (he.2.2.1 rfl);have h53:=eT 53 (he.1 rfl);have h54:=eT 54 (he.2.1 rfl);have hf0:=eF A 16;exact cY (f:=16) (args:=#[vg,vc]) h52 (g5.out _ _ _ (hg.on hb) (hc.on hb))
 ·exact fun _ _ a _ _ e=>yM (e.1 rfl) rfl (a 4 rfl)
 ·exact fun _ _ a _ _ e=>yM (e.1 rfl) rfl (a 8 rfl)
 ·intro A w1 hA hL hS he;have hb:=hS rfl;have h52:=eT 52 (he.2.2.2.1 rfl);have h56:=eT 56 (he.1 rfl);have h57:=eT 57 (he.2.1 rfl);have hf0:=eF A 16;exact cY (f:=16) (args:=#[va,vh]) h52 (g6.out _ _ _ (ha.on hb) (hh.on hb))
 ·intro A w1 hA hL hS he;have hb:=hS rfl;have h52:=eT 52 (he.2.2.2.1 rfl);obtain⟨v55,h55,f55⟩:=fT 55 (he.1 rfl);obtain⟨v58,h58,f58⟩:=fT 58 (he.2.1 rfl);have hf0:=eF A 13;refine goOn_yes rfl rfl h52 ?_;refine stepG_call (f:=13) (args:=#[v55,v58]) rfl rfl ?_ ?_
  ·exact gZ
  ·refine (sameK Kk Kk rfl f55 f58).mono ?_;rintro e w' ⟨rfl,hb'⟩;exact⟨_,rfl,hb',rfl⟩
 ·intro A w1 hA hL hS he;have h52:=eT 52 (he.1 rfl);have h59:=eT 59 (he.2.1 rfl);have hc0:=eC A (.bool false);exact pZ rfl
 ·exact fun _ _ _ _ _ e=>xM rfl (e.1 rfl)
 ·exact fun _ _ a _ _ e=>yM (e.1 rfl) rfl (a 9 rfl)
 ·exact fun _ _ a _ _ e=>yM (e.1 rfl) rfl (a 10 rfl)
 ·exact fun _ _ a _ _ e=>yM (e.1 rfl) rfl (a 7 rfl)
 ·intro A w1 hA hL hS he;have hb:=hS rfl;have h61:=eT 61 (he.2.2.1 rfl);have h63:=eT 63 (he.1 rfl);have h64:=eT 64 (he.2.1 rfl);have hf0:=eF A 12;exact cY (f:=12) (args:=#[vn,vg]) h61 (mul7K Kn Kg o2 (hn.on hb) (hg.on hb))
 ·intro A w1 hA hL hS he;have hb:=hS rfl;have h61:=eT 61 (he.2.2.2.1 rfl);have h62:=eT 62 (he.1 rfl);obtain⟨v65,h65,f65⟩:=fT 65 (he.2.1 rfl);have hf0:=eF A 13;refine goOn_yes rfl rfl h61 ?_;refine stepG_call (f:=13) (args:=#[v9,v65]) rfl rfl ?_ ?_
  ·exact gZ
  ·refine (sameK KM KM rfl (h9.on hb) f65).mono ?_;rintro e w' ⟨rfl,hb'⟩;exact⟨_,rfl,hb',rfl⟩
 ·intro A w1 hA hL hS he;have h61:=eT 61 (he.1 rfl);have h66:=eT 66 (he.2.1 rfl);have hc0:=eC A (.bool false);exact pZ rfl
 ·exact fun _ _ _ _ _ e=>xM rfl (e.1 rfl)
 ·exact fun _ _ a _ _ e=>yM (e.1 rfl) rfl (a 4 rfl)
 ·exact fun _ _ a _ _ e=>yM (e.1 rfl) rfl (a 4 rfl)
 ·intro A w1 hA hL hS he;have hb:=hS rfl;have h68:=eT 68 (he.2.2.1 rfl);have h69:=eT 69 (he.1 rfl);have h70:=eT 70 (he.2.1 rfl);have hf0:=eF A 16;exact cY (f:=16) (args:=#[va,va]) h68 (g7.out _ _ _ (ha.on hb) (ha.on hb))
 ·exact fun _ _ a _ _ e=>yM (e.1 rfl) rfl (a 4 rfl)
 ·intro A w1 hA hL hS he;have hb:=hS rfl;have h68:=eT 68 (he.2.2.1 rfl);have h72:=eT 72 (he.1 rfl);have hf0:=eF A 14;exact cY (f:=14) (args:=#[va]) h68 (n2.out _ _ (ha.on hb))
 ·intro A w1 hA hL hS he;have hb:=hS rfl;have h68:=eT 68 (he.2.2.2.1 rfl);obtain⟨v71,h71,f71⟩:=fT 71 (he.1 rfl);obtain⟨v73,h73,f73⟩:=fT 73 (he.2.1 rfl);have hf0:=eF A 13;refine goOn_yes rfl rfl h68 ?_;refine stepG_call (f:=13) (args:=#[v71,v73]) rfl rfl ?_ ?_
  ·exact gZ
  ·refine (sameK Kn' Kn' rfl f71 f73).mono ?_;rintro e w' ⟨rfl,hb'⟩;exact⟨_,rfl,hb',rfl⟩
 ·intro A w1 hA hL hS he;have h68:=eT 68 (he.1 rfl);have h74:=eT 74 (he.2.1 rfl);have hc0:=eC A (.bool false);exact pZ rfl
 ·exact fun _ _ _ _ _ e=>xM rfl (e.1 rfl)
 ·exact fun _ _ a _ _ e=>yM (e.1 rfl) rfl (a 3 rfl)
 ·intro A w1 hA hL hS he;have h76:=eT 76 (he.1 rfl);have h77:=eT 77 (he.2.1 rfl);have hc0:=eC A (.bool false);exact pZ rfl
 intro w9 hL;simp only [TailL,FactL.eq,FactL.poly,FactL.ret,FactL.of,List.length_cons,List.length_nil,List.drop_succ_cons,List.drop_zero];rintro _ - _ - _ - _ - _ - _ -;go_frame;replace hb0:=hb0.trans (hL.below.mono hb0.size);clear hL;go_wp2;go_ret;exact⟨rfl,hb0⟩
end Go.Proofs.YtopclbeomcggiaaGreat
