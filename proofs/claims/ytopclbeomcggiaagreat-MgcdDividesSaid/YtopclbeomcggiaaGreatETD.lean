/- law08.MgcdDivides: the walks. -/
import Derived.Test.YtopclbeomcggiaaGreatE02
import Derived.Test.YtopclbeomcggiaaGreatE04
import Derived.Test.YtopclbeomcggiaaGreatE20
import Derived.Test.YtopclbeomcggiaaGreatE43
import Derived.Test.YtopclbeomcggiaaGreatESJ
import Derived.Test.YtopclbeomcggiaaGreatESM
set_option linter.unusedVariables false
set_option linter.unusedSimpArgs false
set_option maxHeartbeats 16000000
set_option maxRecDepth 100000
namespace Q
theorem one_pkN:Pk ⟨1,1,0,1⟩ [(e0,(1:Rat))]:=one_pk
end Q
namespace Go.Proofs.YtopclbeomcggiaaGreat
open Go.RowKit Q Go.WideMaps Go.Maps
theorem gcddiv_zero (sA sB sC:Value) (a b c:List Trm) (sc:Sz) (w:World) (Ka:Pk sc a) (Kb:Pk sc b) (Kc:Pk sc c) (o1:(sc.mul sc).ok) (e1:Hid (mulP a c=[])) (e2:Hid (mulP b c=[]))
  (m1:Hid (∀ W,Below w.heap.size w W->Calls Tryz.prog 11 #[sA] W (RetPoly W a)))
  (m2:Hid (∀ W,Below w.heap.size w W->Calls Tryz.prog 11 #[sB] W (RetPoly W b)))
  (m3:Hid (∀ W,Below w.heap.size w W->Calls Tryz.prog 11 #[sC] W (RetPoly W c)))
  (g1:Hid (∀ W u v,IsPoly W u []->IsPoly W v []->Calls Tryz.prog 16 #[u,v] W (RetPoly W []))) :
  Calls Tryz.prog 4 #[.agg #[sA,sB,sC]] w (Ret w (.bool true)):=by
 go_enter Tryz.func4,Tryz.ntmps4
 go_upto_region 2 with (go_at_call 10;refine (sanity8_any _).mono ?_;rintro e w1 ⟨rfl,hb1⟩)
 have hbA:=(Below.refl w.heap.size w).alloc (Nat.le_refl _) (.cells #[sA,sB,sC] 24);have hb0:=hbA.trans (hb1.mono hbA.size);have BB:Blk w1 w.heap.size 24 [sA,sB,sC]:=(show Blk (w.alloc (.cells #[sA,sB,sC] 24)) w.heap.size 24 [sA,sB,sC] from Blk.new w _ [sA,sB,sC]).on hb1;refine wp_region_S trivial (none) (0) (Okr.none) [.eq (.pointer (some ⟨w.heap.size,2,none⟩)),.eq (sC),.poly (by decide) (by decide) (c)] [15,16,17] rfl rfl rfl rfl ⟨?_,?_,?_,trivial⟩ ?_
 ·intro A w1 hA hL hS he;have h1:A.eval (.tmp 1)=.pointer (some ⟨w.heap.size,0,none⟩):=hA 1 rfl;exact pZ rfl
 ·intro A w1 hA hL hS he;have hb:=hL.below;have h15:=eT 15 (he.1 rfl);have c0:=((BB).on hb).at1 2 _ rfl;exact pZ rfl
 ·intro A w1 hA hL hS he;have hb:=hS rfl;have h16:=eT 16 (he.1 rfl);have hf0:=eF A 11;exact cP (f:=11) (args:=#[sC]) (m3.out _ (hb0.trans (hb.mono hb0.size)))
 intro w2 hL;simp only [TailL,FactL.eq,FactL.poly,FactL.ret,FactL.of,lZ];rintro vc hc;go_frame;have hb:=hL.below;replace hb0:=hb0.trans (hb.mono hb0.size);replace BB:=BB.on hb;clear hL hb m3 hbA hb1
 go_upto_region 3 with (fail)
 refine wp_region_L mixed (none) (0) (Okr.none) [.eq (.pointer (some ⟨w.heap.size,0,none⟩)),.eq (sA),.poly (by decide) (by decide) (a),.eq (vc),.poly (by decide) (by decide) ((mulP a c)),.eq (.pointer (some ⟨w.heap.size,1,none⟩)),.eq (sB),.poly (by decide) (by decide) (b),.eq (vc),.poly (by decide) (by decide) ((mulP b c))] [18,19,20,21,22,23,24,25,26,27] rfl rfl rfl rfl ⟨?_,?_,?_,?_,?_,?_,?_,?_,?_,?_,trivial⟩ ?_
 ·intro A w1 hA hL hS he;have h1:A.eval (.tmp 1)=.pointer (some ⟨w.heap.size,0,none⟩):=hA 1 rfl;exact pZ rfl
 ·intro A w1 hA hL hS he;have hb:=hL.below;have h18:=eT 18 (he.1 rfl);have c0:=((BB).on hb).at1 0 _ rfl;exact pZ rfl
 ·intro A w1 hA hL hS he;have hb:=hS rfl;have h19:=eT 19 (he.1 rfl);have hf0:=eF A 11;exact cP (f:=11) (args:=#[sA]) (m1.out _ (hb0.trans (hb.mono hb0.size)))
 ·exact fun _ _ a _ _ _=>xM rfl (a 4 rfl)
 ·intro A w1 hA hL hS he;have hb:=hS rfl;obtain⟨v20,h20,f20⟩:=fT 20 (he.1 rfl);have h21:=eT 21 (he.2.1 rfl);have hf0:=eF A 12;exact cP (f:=12) (args:=#[v20,vc]) (mul7K Ka Kc o1 f20 (hc.on hb))
 ·intro A w1 hA hL hS he;have h1:A.eval (.tmp 1)=.pointer (some ⟨w.heap.size,0,none⟩):=hA 1 rfl;exact pZ rfl
 ·intro A w1 hA hL hS he;have hb:=hL.below;have h23:=eT 23 (he.1 rfl);have c0:=((BB).on hb).at1 1 _ rfl;exact pZ rfl
 ·intro A w1 hA hL hS he;have hb:=hS rfl;have h24:=eT 24 (he.1 rfl);have hf0:=eF A 11;exact cP (f:=11) (args:=#[sB]) (m2.out _ (hb0.trans (hb.mono hb0.size)))
 ·exact fun _ _ a _ _ _=>xM rfl (a 4 rfl)
 ·intro A w1 hA hL hS he;have hb:=hS rfl;obtain⟨v25,h25,f25⟩:=fT 25 (he.1 rfl);have h26:=eT 26 (he.2.1 rfl);have hf0:=eF A 12;exact cP (f:=12) (args:=#[v25,vc]) (mul7K Kb Kc o1 f25 (hc.on hb))
 intro w3 hL;simp only [TailL,FactL.eq,FactL.poly,FactL.ret,FactL.of,lZ];rintro _ - vp hp _ - vq hq;go_frame;have hb:=hL.below;replace hb0:=hb0.trans (hb.mono hb0.size);rw [e1.out] at hp;rw [e2.out] at hq;clear hL hb m1 m2 BB e1 e2 Ka Kb Kc o1 hc
 go_upto_region 5 with (go_at_call 16;refine (g1.out _ _ _ hp hq).mono ?_;rintro e w4 ⟨vg,rfl,hg,hb4⟩)
 replace hb0:=hb0.trans (hb4.mono hb0.size);obtain⟨ap,cp,rfl,-⟩:=hp.shape;obtain⟨aq,cq,rfl,-⟩:=hq.shape;obtain⟨ag,cg,rfl,-⟩:=hg.shape;simp only [List.length_nil] at *;clear g1 hp hq hg hb4;go_wp2;go_ret;exact⟨rfl,hb0⟩
theorem gcddiv_main (sA sB sC:Value) (a b c r x y s:List Trm) (t:Trm) (sc sg:Sz) (w:World) (Ka:Pk sc a) (Kb:Pk sc b) (Kc:Pk sc c) (o1:(sc.mul sc).ok) (Kg:Pk sg (t::r)) (ht:Hid (t.2=1))
  (hlen:Hid ((mulP a c).length≠0\/(mulP a c).length=0/\(mulP b c).length≠0))
  (m1:Hid (∀ W,Below w.heap.size w W->Calls Tryz.prog 11 #[sA] W (RetPoly W a)))
  (m2:Hid (∀ W,Below w.heap.size w W->Calls Tryz.prog 11 #[sB] W (RetPoly W b)))
  (m3:Hid (∀ W,Below w.heap.size w W->Calls Tryz.prog 11 #[sC] W (RetPoly W c)))
  (g1:Hid (∀ W u v,IsPoly W u (mulP a c)->IsPoly W v (mulP b c)->Calls Tryz.prog 16 #[u,v] W (RetPoly W (t::r))))
  (d1:Hid (∀ W u v,IsPoly W u (mulP a c)->IsPoly W v (t::r)->Calls Tryz.prog 25 #[u,v] W (RetDivT W x true)))
  (d2:Hid (∀ W u v,IsPoly W u (mulP b c)->IsPoly W v (t::r)->Calls Tryz.prog 25 #[u,v] W (RetDivT W y true)))
  (d3:Hid (∀ W u v,IsPoly W u (t::r)->IsPoly W v c->Calls Tryz.prog 25 #[u,v] W (RetDivT W s true)))
  (g2:Hid (∀ W u v,IsPoly W u x->IsPoly W v y->Calls Tryz.prog 16 #[u,v] W (RetPoly W [(e0,(1:Rat))]))) :
  Calls Tryz.prog 4 #[.agg #[sA,sB,sC]] w (Ret w (.bool true)):=by
 have hw2:=zH (fun W=>(whole2_any 1 W (by omega) (by omega):Calls Tryz.prog 24 #[.int .i64 1] W (RetRat W 1)));have hn1:=zH (fun W=>num8_any 1 [(e0,(1:Rat))] W (by omega) (by omega) (by decide +kernel) (by decide +kernel));have rk1:Rk 1:=Kg.rk t (by simp) |> fun h=>ht.out ▸ h;have K1:=one_pkN;have hne:¬ ((r.length:Int)+1=0):=by omega
 go_enter Tryz.func4,Tryz.ntmps4
 go_upto_region 2 with (go_at_call 10;refine (sanity8_any _).mono ?_;rintro e w1 ⟨rfl,hb1⟩)
 have hbA:=(Below.refl w.heap.size w).alloc (Nat.le_refl _) (.cells #[sA,sB,sC] 24);have hb0:=hbA.trans (hb1.mono hbA.size);have BB:Blk w1 w.heap.size 24 [sA,sB,sC]:=(show Blk (w.alloc (.cells #[sA,sB,sC] 24)) w.heap.size 24 [sA,sB,sC] from Blk.new w _ [sA,sB,sC]).on hb1;refine wp_region_S trivial (none) (0) (Okr.none) [.eq (.pointer (some ⟨w.heap.size,2,none⟩)),.eq (sC),.poly (by decide) (by decide) (c)] [15,16,17] rfl rfl rfl rfl ⟨?_,?_,?_,trivial⟩ ?_
 ·intro A w1 hA hL hS he;have h1:A.eval (.tmp 1)=.pointer (some ⟨w.heap.size,0,none⟩):=hA 1 rfl;exact pZ rfl
 ·intro A w1 hA hL hS he;have hb:=hL.below;have h15:=eT 15 (he.1 rfl);have c0:=((BB).on hb).at1 2 _ rfl;exact pZ rfl
 ·intro A w1 hA hL hS he;have hb:=hS rfl;have h16:=eT 16 (he.1 rfl);have hf0:=eF A 11;exact cP (f:=11) (args:=#[sC]) (m3.out _ (hb0.trans (hb.mono hb0.size)))
 intro w2 hL;simp only [TailL,FactL.eq,FactL.poly,FactL.ret,FactL.of,lZ];rintro vc hc;go_frame;have hb:=hL.below;replace hb0:=hb0.trans (hb.mono hb0.size);replace BB:=BB.on hb;clear hL hb m3 hbA hb1
 go_upto_region 3 with (fail)
 refine wp_region_L mixed (none) (0) (Okr.none) [.eq (.pointer (some ⟨w.heap.size,0,none⟩)),.eq (sA),.poly (by decide) (by decide) (a),.eq (vc),.poly (by decide) (by decide) ((mulP a c)),.eq (.pointer (some ⟨w.heap.size,1,none⟩)),.eq (sB),.poly (by decide) (by decide) (b),.eq (vc),.poly (by decide) (by decide) ((mulP b c))] [18,19,20,21,22,23,24,25,26,27] rfl rfl rfl rfl ⟨?_,?_,?_,?_,?_,?_,?_,?_,?_,?_,trivial⟩ ?_
 ·intro A w1 hA hL hS he;have h1:A.eval (.tmp 1)=.pointer (some ⟨w.heap.size,0,none⟩):=hA 1 rfl;exact pZ rfl
 ·intro A w1 hA hL hS he;have hb:=hL.below;have h18:=eT 18 (he.1 rfl);have c0:=((BB).on hb).at1 0 _ rfl;exact pZ rfl
 ·intro A w1 hA hL hS he;have hb:=hS rfl;have h19:=eT 19 (he.1 rfl);have hf0:=eF A 11;exact cP (f:=11) (args:=#[sA]) (m1.out _ (hb0.trans (hb.mono hb0.size)))
 ·exact fun _ _ a _ _ _=>xM rfl (a 4 rfl)
 ·intro A w1 hA hL hS he;have hb:=hS rfl;obtain⟨v20,h20,f20⟩:=fT 20 (he.1 rfl);have h21:=eT 21 (he.2.1 rfl);have hf0:=eF A 12;exact cP (f:=12) (args:=#[v20,vc]) (mul7K Ka Kc o1 f20 (hc.on hb))
 ·intro A w1 hA hL hS he;have h1:A.eval (.tmp 1)=.pointer (some ⟨w.heap.size,0,none⟩):=hA 1 rfl;exact pZ rfl
 ·intro A w1 hA hL hS he;have hb:=hL.below;have h23:=eT 23 (he.1 rfl);have c0:=((BB).on hb).at1 1 _ rfl;exact pZ rfl
 ·intro A w1 hA hL hS he;have hb:=hS rfl;have h24:=eT 24 (he.1 rfl);have hf0:=eF A 11;exact cP (f:=11) (args:=#[sB]) (m2.out _ (hb0.trans (hb.mono hb0.size)))
 ·exact fun _ _ a _ _ _=>xM rfl (a 4 rfl)
 ·intro A w1 hA hL hS he;have hb:=hS rfl;obtain⟨v25,h25,f25⟩:=fT 25 (he.1 rfl);have h26:=eT 26 (he.2.1 rfl);have hf0:=eF A 12;exact cP (f:=12) (args:=#[v25,vc]) (mul7K Kb Kc o1 f25 (hc.on hb))
 intro w3 hL;simp only [TailL,FactL.eq,FactL.poly,FactL.ret,FactL.of,lZ];rintro _ - vp hp _ - vq hq;go_frame;have hb:=hL.below;replace hb0:=hb0.trans (hb.mono hb0.size);replace hc:=hc.on hb;clear hL hb m1 m2 BB
 go_upto_region 5 with (go_at_call 16;refine (g1.out _ _ _ hp hq).mono ?_;rintro e w4 ⟨vg,rfl,hg,hb4⟩)
 replace hb0:=hb0.trans (hb4.mono hb0.size);replace hc:=hc.on hb4;replace hp:=hp.on hb4;replace hq:=hq.on hb4;clear g1 hb4;obtain⟨ap,cp,rfl,-⟩:=hp.shape;obtain⟨aq,cq,rfl,-⟩:=hq.shape;obtain⟨ag,cg,rfl,-⟩:=hg.shape;obtain⟨bg,og,rg,rfl,hrg,hCg⟩:=cell_term hg (i:=0) (s:=t) rfl;simp only [List.length_cons] at hg hCg ⊢;rcases hlen.out with h1|⟨h1,h2⟩
 all_goals first
 |(have n1:((((mulP a c).length:Nat):Int) == 0)=false:=(by simp;intro h;exact h1 (by rw [h];rfl));(go_upto_region 7 with (fail));clear n1 h1)
 |(have n1:((((mulP a c).length:Nat):Int) == 0)=true:=(by rw [h1];rfl);have n2:((((mulP b c).length:Nat):Int) == 0)=false:=(by simp;intro h;exact h2 (by rw [h];rfl));(go_upto_region 7 with (fail));clear n1 n2 h1 h2)
 all_goals
  clear hlen;refine wp_region_L mixed (none) (0) (Okr.none) [.eq (.slice (some ⟨bg,og,none⟩) (r.length+1) cg),.ret (.bool true),.eq (.bool false),.eq (.bool false),.eq (.slice (some ⟨bg,og,none⟩) (r.length+1) cg),.eq (.int .i64 ((r.length+1:Nat):Int)),.eq (.bool false),.eq (.bool false),.eq (.bool false),.eq (.slice (some ⟨bg,og,none⟩) (r.length+1) cg),.eq (.pointer (some ⟨bg,og+0*8,none⟩)),.eq (.pointer (some ⟨bg,og+0*8+4,none⟩)),.eq (.agg (rg).toArray),.rat (by decide) ((1:Rat)),.ret (.bool true),.eq (.bool false),.eq (.bool false)] [45,46,47,48,49,50,51,52,53,54,55,56,57,58,59,60,61] rfl rfl rfl rfl ⟨?_,?_,?_,?_,?_,?_,?_,?_,?_,?_,?_,?_,?_,?_,?_,?_,?_,trivial⟩ ?_
  ·exact fun _ _ a _ _ _=>xM rfl (a 7 rfl)
  ·intro A w1 hA hL hS he;have hb:=hS rfl;have h45:=eT 45 (he.1 rfl);have hf0:=eF A 22;refine goOn_plain rfl ?_;refine stepG_call (f:=22) (args:=#[.slice (some ⟨bg,og,none⟩) (r.length+1) cg]) rfl rfl ?_ ?_
   ·exact gZ
   ·refine (valid7K Kg (hg.on hb)).mono ?_;rintro e w' ⟨rfl,hb'⟩;exact⟨_,rfl,hb',rfl⟩
  ·intro A w1 hA hL hS he;have h46:=eT 46 (he.1 rfl);exact pZ rfl
  ·exact fun _ _ _ _ _ e=>xM rfl (e.1 rfl)
  ·exact fun _ _ a _ _ e=>yM (e.1 rfl) rfl (a 7 rfl)
  ·intro A w1 hA hL hS he;have h48:=eT 48 (he.2.1 rfl);have h49:=eT 49 (he.1 rfl);exact yZ h48 rfl
  ·intro A w1 hA hL hS he;have h48:=eT 48 (he.2.1 rfl);have h50:=eT 50 (he.1 rfl);have hc0:=eC A (.int .i64 0);exact yZ h48 rfl
  ·intro A w1 hA hL hS he;have h48:=eT 48 (he.1 rfl);have h51:=eT 51 (he.2.1 rfl);have hc0:=eC A (.bool true);exact pZ rfl
  ·exact fun _ _ _ _ _ e=>xM rfl (e.1 rfl)
  ·exact fun _ _ a _ _ e=>yM (e.1 rfl) rfl (a 7 rfl)
  ·exact fun _ _ _ _ _ e=>goOn_yes rfl rfl (e.2.1 rfl) (xI rfl Tryz.underlying27 bg og 0 (by omega) (e.1 rfl) rfl)
  ·exact fun _ _ _ _ _ e=>goOn_yes rfl rfl (e.2.1 rfl) (xF1 rfl (e.1 rfl))
  ·exact fun _ _ _ hL _ e=>goOn_yes rfl rfl (e.2.1 rfl) (xL rfl (cells_rat (hCg.on hL.below)) Tryz.underlying41 (hrg.len) (e.1 rfl))
  ·intro A w1 hA hL hS he;have hb:=hS rfl;have h53:=eT 53 (he.1 rfl);have hf0:=eF A 24;have hc0:=eC A (.int .i64 1);exact cY (f:=24) (args:=#[(.int .i64 1)]) h53 (hw2.out _)
  ·intro A w1 hA hL hS he;have hb:=hS rfl;have h53:=eT 53 (he.2.2.2.1 rfl);have h57:=eT 57 (he.1 rfl);obtain⟨v58,h58,f58⟩:=fT 58 (he.2.1 rfl);have hf0:=eF A 23;refine goOn_yes rfl rfl h53 ?_;refine stepG_call (f:=23) (args:=#[.agg (rg).toArray,v58]) rfl rfl ?_ ?_
   ·exact gZ
   ·refine ((decide_eq_true ht.out) ▸ same2_any _ _ _ _ _ (hrg.on hb).rat f58 (ht.out.symm ▸ rk1) rk1).mono ?_;rintro e w' ⟨rfl,hb'⟩;exact⟨_,rfl,hb',rfl⟩
  ·intro A w1 hA hL hS he;have h53:=eT 53 (he.2.1 rfl);have h59:=eT 59 (he.1 rfl);exact yZ h53 rfl
  ·intro A w1 hA hL hS he;have h53:=eT 53 (he.1 rfl);have h60:=eT 60 (he.2.1 rfl);have hc0:=eC A (.bool true);exact pZ rfl
  intro w5 hL;simp only [TailL,FactL.eq,FactL.poly,FactL.rat,FactL.ret,FactL.of,lZ];rintro _ -;go_frame;have hb:=hL.below;replace hb0:=hb0.trans (hb.mono hb0.size);replace hc:=hc.on hb;replace hp:=hp.on hb;replace hq:=hq.on hb;replace hg:=hg.on hb;clear hL hb hw2 hCg hrg hne;obtain⟨up,hup⟩:∃ u:Value,u=.slice ap (mulP a c).length cp:=⟨_,rfl⟩;obtain⟨uq,huq⟩:∃ u:Value,u=.slice aq (mulP b c).length cq:=⟨_,rfl⟩;obtain⟨ug,hug⟩:∃ u:Value,u=.slice (some ⟨bg,og,none⟩) (r.length+1) cg:=⟨_,rfl⟩;rw [<- hup] at hp ⊢;rw [<- huq] at hq ⊢;rw [<- hug] at hg ⊢;clear hup huq hug
  go_upto_region 10 with (go_at_call 25;refine (d1.out _ _ _ hp hg).mono ?_;rintro e w6 ⟨vx,rfl,hx,hb6⟩)
  replace hb0:=hb0.trans (hb6.mono hb0.size);replace hc:=hc.on hb6;replace hq:=hq.on hb6;replace hg:=hg.on hb6;clear hb6 hp d1
  go_upto_region 11 with (go_at_call 25;refine (d2.out _ _ _ hq hg).mono ?_;rintro e w7 ⟨vy,rfl,hy,hb7⟩)
  replace hb0:=hb0.trans (hb7.mono hb0.size);replace hc:=hc.on hb7;replace hx:=hx.on hb7;replace hg:=hg.on hb7;clear hb7 hq d2
  go_upto_region 12 with (go_at_call 25;refine (d3.out _ _ _ hg hc).mono ?_;rintro e w8 ⟨vs,rfl,hs,hb8⟩)
  replace hb0:=hb0.trans (hb8.mono hb0.size);replace hx:=hx.on hb8;replace hy:=hy.on hb8;clear hb8 hg hc hs d3;refine wp_region_S trivial (none) (0) (Okr.none) [.eq (.bool true),.eq (.bool true),.eq (.bool true),.eq (.bool true),.eq (.bool true),.eq (.bool true),.eq (.bool true),.eq (.bool true),.eq (vx),.eq (vy),.poly (by decide) (by decide) ([(e0,(1:Rat))]),.poly (by decide) (by decide) ([(e0,(1:Rat))]),.ret (.bool true),.eq (.bool true),.eq (.bool true),.eq (.bool true),.eq (.bool true)] [80,81,82,83,84,85,86,87,88,89,90,91,92,93,94,95,96] rfl rfl rfl rfl ⟨?_,?_,?_,?_,?_,?_,?_,?_,?_,?_,?_,?_,?_,?_,?_,?_,?_,trivial⟩ ?_
  ·exact fun _ _ a _ _ _=>xM rfl (a 9 rfl)
  ·exact fun _ _ _ _ _ e=>xM rfl (e.1 rfl)
  ·exact fun _ _ a _ _ e=>yM (e.1 rfl) rfl (a 11 rfl)
  ·intro A w1 hA hL hS he;have h81:=eT 81 (he.1 rfl);have h82:=eT 82 (he.2.1 rfl);have hc0:=eC A (.bool false);exact pZ rfl
  ·exact fun _ _ _ _ _ e=>xM rfl (e.1 rfl)
  ·exact fun _ _ a _ _ e=>yM (e.1 rfl) rfl (a 13 rfl)
  ·intro A w1 hA hL hS he;have h84:=eT 84 (he.1 rfl);have h85:=eT 85 (he.2.1 rfl);have hc0:=eC A (.bool false);exact pZ rfl
  ·exact fun _ _ _ _ _ e=>xM rfl (e.1 rfl)
  ·exact fun _ _ a _ _ e=>yM (e.1 rfl) rfl (a 8 rfl)
  ·exact fun _ _ a _ _ e=>yM (e.1 rfl) rfl (a 10 rfl)
  ·intro A w1 hA hL hS he;have hb:=hS rfl;have h87:=eT 87 (he.2.2.1 rfl);have h88:=eT 88 (he.1 rfl);have h89:=eT 89 (he.2.1 rfl);have hf0:=eF A 16;exact cY (f:=16) (args:=#[vx,vy]) h87 (g2.out _ _ _ (hx.on hb) (hy.on hb))
  ·intro A w1 hA hL hS he;have hb:=hS rfl;have h87:=eT 87 (he.2.1 rfl);have hf0:=eF A 26;have hc0:=eC A (.int .i64 1);exact cY (f:=26) (args:=#[(.int .i64 1)]) h87 (hn1.out _)
  ·intro A w1 hA hL hS he;have hb:=hS rfl;have h87:=eT 87 (he.2.2.2.1 rfl);obtain⟨v90,h90,f90⟩:=fT 90 (he.1 rfl);obtain⟨v91,h91,f91⟩:=fT 91 (he.2.1 rfl);have hf0:=eF A 13;refine goOn_yes rfl rfl h87 ?_;refine stepG_call (f:=13) (args:=#[v90,v91]) rfl rfl ?_ ?_
   ·exact gZ
   ·refine (sameK K1 K1 rfl f90 f91).mono ?_;rintro e w' ⟨rfl,hb'⟩;exact⟨_,rfl,hb',rfl⟩
  ·intro A w1 hA hL hS he;have h87:=eT 87 (he.1 rfl);have h92:=eT 92 (he.2.1 rfl);have hc0:=eC A (.bool false);exact pZ rfl
  ·exact fun _ _ _ _ _ e=>xM rfl (e.1 rfl)
  ·exact fun _ _ a _ _ e=>yM (e.1 rfl) rfl (a 3 rfl)
  ·intro A w1 hA hL hS he;have h94:=eT 94 (he.1 rfl);have h95:=eT 95 (he.2.1 rfl);have hc0:=eC A (.bool false);exact pZ rfl
  intro w9 hL;simp only [TailL,FactL.eq,FactL.poly,FactL.ret,FactL.of,lZ];rintro _ - _ -;go_frame;replace hb0:=hb0.trans (hL.below.mono hb0.size);clear hL;go_wp2;go_ret;exact⟨rfl,hb0⟩
end Go.Proofs.YtopclbeomcggiaaGreat
