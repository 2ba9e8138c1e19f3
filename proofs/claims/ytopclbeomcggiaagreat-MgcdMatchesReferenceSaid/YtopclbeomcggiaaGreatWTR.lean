/- law08.MgcdMatchesReference: the walk. -/
import Derived.Test.YtopclbeomcggiaaGreatWSJ
import Derived.Test.YtopclbeomcggiaaGreatWSM
set_option linter.unusedVariables false
set_option linter.unusedSimpArgs false
set_option maxHeartbeats 16000000
set_option maxRecDepth 100000
namespace Go.Proofs.YtopclbeomcggiaaGreat
open Go.RowKit Q Go.WideMaps Go.Maps
def Ca (f:FuncId) (a c:List ai):Prop:=∀W u,ak W u a->Calls Tryz.prog f #[u] W (aS W c)
def Cb (f:FuncId) (a b c:List ai):Prop:=∀W u v,ak W u a->ak W v b->Calls Tryz.prog f #[u,v] W (aS W c)
def Cc (f:FuncId) (k:Nat) (a c:List ai):Prop:=∀W u,ak W u a->Calls Tryz.prog f #[u,.int .i64 k] W (aS W c)
theorem J9(d i j:Value)(z:Int)(k:Nat)(a b c n g t p:List ai)(sc D sg G F:Sz)(w:World)(u:Pk sc a)(Kb:Pk sc b)(q:Pk sc c)(o1:(sc.mul sc).ok)(y:Pk D n)(x:Pk sg g)(C:Pk G t)(B:Pk F p)
  (hz:IntKind.i64.wrap z=z) (o:z.tmod 4=k)
  (m1:Hid (∀W,Below w.heap.size w W->Calls Tryz.prog 11 #[d] W (aS W a)))
  (m2:Hid (∀W,Below w.heap.size w W->Calls Tryz.prog 11 #[i] W (aS W b)))
  (m3:Hid (∀W,Below w.heap.size w W->Calls Tryz.prog 11 #[j] W (aS W c)))
  (c1:Hid (Ca 14 (aX a c) n)) (c2:Hid (Ca 15 (aX a c) n))
  (c3:Hid (Cb 16 (aX a c) (aX b c) g)) (c4:Hid (Cb 17 (aX a c) (aX b c) g))
  (c5:Hid (Cc 18 k (aX a c) t)) (c6:Hid (Cc 19 k (aX a c) t))
  (c7:Hid (Cc 20 k (aX a c) p)) (c8:Hid (Cc 21 k (aX a c) p)) :
  Calls Tryz.prog 3 #[.agg #[d,i,j],.int .u8 z] w (rE w (.bool true)):=by
 replace hz:=zH hz;replace o:=zH o
 go_enter Tryz.func3,Tryz.ntmps3
 go_upto_region 2 with (go_at_call 10;refine(J8 _).mono ?_;rintro e w1 ⟨rfl,hb1⟩)
 have l:=(Below.refl w.heap.size w).alloc (nL _) (.cells #[d,i,j] 24);have hb0:=l.trans (hb1.mono l.size);have m:Blk w1 w.heap.size 24 [d,i,j]:=(show Blk (w.alloc (.cells #[d,i,j] 24)) w.heap.size 24 [d,i,j]from Blk.new w _ [d,i,j]).on hb1;refine aR trivial (none) (0) (fK.none) [.eq (.pointer (some ⟨w.heap.size,2,none⟩)),.eq (j),.poly dM dM (c)] [11,12,13] rfl rfl rfl rfl ⟨λA _ hA _ _ _=>have h2:A.eval (.tmp 2)=.pointer (some ⟨w.heap.size,0,none⟩):=hA 2 rfl;pZ rfl,λA _ _ hL _ he=>have hb:=hL.below;have h11:=eT 11 (he.1 rfl);have c0:=((m).on hb).at1 2 _ rfl;pZ rfl,λA _ _ _ hS he=>have hb:=hS rfl;have h12:=eT 12 (he.1 rfl);have hf0:=eF A 11;cP (f:=11) (args:=#[j]) (m3.out _ (hb0.trans (hb.mono hb0.size))),trivial⟩ ?_;intro w2 hL;simp only[aT,af.eq,af.poly,af.ret,af.of,lZ];rintro vc hc;go_frame;have hb:=hL.below;replace hb0:=hb0.trans (hb.mono hb0.size);replace m:=m.on hb;clear hL hb m3 l hb1
 go_upto_region 3 with (fail)
 have s:=hz.out;have r:=o.out;refine aC mixed (none) (0) (fK.none) [.eq (.pointer (some ⟨w.heap.size,0,none⟩)),.eq (d),.poly dM dM (a),.eq (vc),.poly dM dM ((aX a c)),.eq (.pointer (some ⟨w.heap.size,1,none⟩)),.eq (i),.poly dM dM (b),.eq (vc),.poly dM dM ((aX b c)),.eq (.int .u8 z),.eq (.int .i64 z),.eq (.int .i64 (k:Int)),.poly dM dM ((aX a c)),.poly dM dM ((aX b c))] [14,15,16,17,18,19,20,21,22,23,24,25,26,7,8] rfl rfl rfl rfl ⟨λA _ hA _ _ _=>have h2:A.eval (.tmp 2)=.pointer (some ⟨w.heap.size,0,none⟩):=hA 2 rfl;pZ rfl,λA _ _ hL _ he=>have hb:=hL.below;have h14:=eT 14 (he.1 rfl);have c0:=((m).on hb).at1 0 _ rfl;pZ rfl,λA _ _ _ hS he=>have hb:=hS rfl;have h15:=eT 15 (he.1 rfl);have hf0:=eF A 11;cP (f:=11) (args:=#[d]) (m1.out _ (hb0.trans (hb.mono hb0.size))),λ_ _ a _ _ _=>xM rfl (a 6 rfl),?_,λA _ hA _ _ _=>have h2:A.eval (.tmp 2)=.pointer (some ⟨w.heap.size,0,none⟩):=hA 2 rfl;pZ rfl,λA _ _ hL _ he=>have hb:=hL.below;have h19:=eT 19 (he.1 rfl);have c0:=((m).on hb).at1 1 _ rfl;pZ rfl,λA _ _ _ hS he=>have hb:=hS rfl;have h20:=eT 20 (he.1 rfl);have hf0:=eF A 11;cP (f:=11) (args:=#[i]) (m2.out _ (hb0.trans (hb.mono hb0.size))),λ_ _ a _ _ _=>xM rfl (a 6 rfl),?_,λ_ _ a _ _ _=>xM rfl (a 1 rfl),λA _ _ _ _ he=>have h24:=eT 24 (he.1 rfl);pZ rfl,λA _ _ _ _ he=>have h25:=eT 25 (he.1 rfl);have hc0:=eC A (.int .i64 4);pZ rfl,?_,?_,trivial⟩ ?_
 ·intro A w1 hA hL hS he;have hb:=hS rfl;obtain⟨v16,h16,f16⟩:=fT 16 (he.1 rfl);have h17:=eT 17 (he.2.1 rfl);have hf0:=eF A 12;exact cP (f:=12) (args:=#[v16,vc]) (Nf u q o1 f16 (hc.on hb))
 ·intro A w1 hA hL hS he;have hb:=hS rfl;obtain⟨v21,h21,f21⟩:=fT 21 (he.1 rfl);have h22:=eT 22 (he.2.1 rfl);have hf0:=eF A 12;exact cP (f:=12) (args:=#[v21,vc]) (Nf Kb q o1 f21 (hc.on hb))
 ·intro A w1 hA hL hS he;obtain⟨v18,h18,f18⟩:=fT 18 (he.1 rfl);exact ae rfl (iM (c:=v18) rfl rfl (Below.refl _ _) f18 (by show Result.ok (Next.value (A.eval (.tmp 18))) w1=_;rw[h18]))
 ·intro A w1 hA hL hS he;obtain⟨v23,h23,f23⟩:=fT 23 (he.1 rfl);exact ae rfl (iM (c:=v23) rfl rfl (Below.refl _ _) f23 (by show Result.ok (Next.value (A.eval (.tmp 23))) w1=_;rw[h23]))
 intro w3 hL;simp only[aT,af.eq,af.poly,af.ret,af.of,lZ];rintro _ - _ - _ - _ - vp hp vq hq;go_frame;have hb:=hL.below;replace hb0:=hb0.trans (hb.mono hb0.size);clear hL hb m1 m2 m u Kb q o1 hc hz o s r
 go_upto_region 4 with (fail)
 refine aR trivial (none) (0) (fK.none) (.eq (vp)::.poly dM dM (n)::.eq (vp)::.poly dM dM (n)::.ret (.bool true)::.eq (.bool true)::.eq (vp)::.eq (vq)::.poly dM dM (g)::.eq (vp)::.eq (vq)::.poly dM dM (g)::.ret (.bool true)::.eq (.bool true)::.eq (.bool true)::.eq (vp)::.eq (.int .i64 (k:Int))::.poly dM dM (t)::.eq (vp)::.eq (.int .i64 (k:Int))::.poly dM dM (t)::.ret (.bool true)::.eq (.bool true)::.eq (.bool true)::.eq (vp)::.eq (.int .i64 (k:Int))::.poly dM dM (p)::.eq (vp)::.eq (.int .i64 (k:Int))::.poly dM dM (p)::.ret (.bool true)::.eq (.bool true)::.eq (.bool true)::.eq (.bool true)::.eq (.bool true)::[]) (27::28::29::30::31::32::33::34::35::36::37::38::39::40::41::42::43::44::45::46::47::48::49::50::51::52::53::54::55::56::57::58::59::60::61::[]) rfl rfl rfl rfl ⟨?_,?_,?_,?_,?_,?_,?_,?_,?_,?_,?_,?_,?_,?_,?_,?_,?_,?_,?_,?_,?_,?_,?_,?_,?_,?_,?_,?_,?_,?_,?_,?_,?_,?_,?_,trivial⟩ ?_
 ·exact λ_ _ a _ _ _=>xM rfl (a 7 rfl)
 ·intro A w1 hA hL hS he;have hb:=hS rfl;have h27:=eT 27 (he.1 rfl);have hf0:=eF A 14;exact cP (f:=14) (args:=#[vp]) (c1.out _ _ (hp.on hb))
 ·exact λ_ _ a _ _ _=>xM rfl (a 7 rfl)
 ·intro A w1 hA hL hS he;have hb:=hS rfl;have h29:=eT 29 (he.1 rfl);have hf0:=eF A 15;exact cP (f:=15) (args:=#[vp]) (c2.out _ _ (hp.on hb))
 ·intro A w1 hA hL hS he;have hb:=hS rfl;obtain⟨v28,h28,f28⟩:=fT 28 (he.1 rfl);obtain⟨v30,h30,f30⟩:=fT 30 (he.2.1 rfl);have hf0:=eF A 13;exact cP (f:=13) (args:=#[v28,v30]) (Jc y y rfl f28 f30)
 ·exact λ_ _ _ _ _ e=>xM rfl (e.1 rfl)
 ·exact λ_ _ a _ _ e=>yM (e.1 rfl) rfl (a 7 rfl)
 ·exact λ_ _ a _ _ e=>yM (e.1 rfl) rfl (a 8 rfl)
 ·intro A w1 hA hL hS he;have hb:=hS rfl;have h32:=eT 32 (he.2.2.1 rfl);have h33:=eT 33 (he.1 rfl);have h34:=eT 34 (he.2.1 rfl);have hf0:=eF A 16;exact cY (f:=16) (args:=#[vp,vq]) h32 (c3.out _ _ _ (hp.on hb) (hq.on hb))
 ·exact λ_ _ a _ _ e=>yM (e.1 rfl) rfl (a 7 rfl)
 ·exact λ_ _ a _ _ e=>yM (e.1 rfl) rfl (a 8 rfl)
 ·intro A w1 hA hL hS he;have hb:=hS rfl;have h32:=eT 32 (he.2.2.2.1 rfl);have h36:=eT 36 (he.1 rfl);have h37:=eT 37 (he.2.1 rfl);have hf0:=eF A 17;exact cY (f:=17) (args:=#[vp,vq]) h32 (c4.out _ _ _ (hp.on hb) (hq.on hb))
 ·intro A w1 hA hL hS he;have hb:=hS rfl;have h32:=eT 32 (he.2.2.2.1 rfl);obtain⟨v35,h35,f35⟩:=fT 35 (he.1 rfl);obtain⟨v38,h38,f38⟩:=fT 38 (he.2.1 rfl);have hf0:=eF A 13;exact cY (f:=13) (args:=#[v35,v38]) h32 (Jc x x rfl f35 f38)
 ·intro A w1 hA hL hS he;have h32:=eT 32 (he.1 rfl);have h39:=eT 39 (he.2.1 rfl);have hc0:=eC A (.bool false);exact pZ rfl
 ·exact λ_ _ _ _ _ e=>xM rfl (e.1 rfl)
 ·exact λ_ _ a _ _ e=>yM (e.1 rfl) rfl (a 7 rfl)
 ·exact λ_ _ a _ _ e=>yM (e.1 rfl) rfl (a 9 rfl)
 ·intro A w1 hA hL hS he;have hb:=hS rfl;have h41:=eT 41 (he.2.2.1 rfl);have h42:=eT 42 (he.1 rfl);have h43:=eT 43 (he.2.1 rfl);have hf0:=eF A 18;exact cY (f:=18) (args:=#[vp,.int .i64 (k:Int)]) h41 (c5.out _ _ (hp.on hb))
 ·exact λ_ _ a _ _ e=>yM (e.1 rfl) rfl (a 7 rfl)
 ·exact λ_ _ a _ _ e=>yM (e.1 rfl) rfl (a 9 rfl)
 ·intro A w1 hA hL hS he;have hb:=hS rfl;have h41:=eT 41 (he.2.2.2.1 rfl);have h45:=eT 45 (he.1 rfl);have h46:=eT 46 (he.2.1 rfl);have hf0:=eF A 19;exact cY (f:=19) (args:=#[vp,.int .i64 (k:Int)]) h41 (c6.out _ _ (hp.on hb))
 ·intro A w1 hA hL hS he;have hb:=hS rfl;have h41:=eT 41 (he.2.2.2.1 rfl);obtain⟨v44,h44,f44⟩:=fT 44 (he.1 rfl);obtain⟨v47,h47,f47⟩:=fT 47 (he.2.1 rfl);have hf0:=eF A 13;exact cY (f:=13) (args:=#[v44,v47]) h41 (Jc C C rfl f44 f47)
 ·intro A w1 hA hL hS he;have h41:=eT 41 (he.1 rfl);have h48:=eT 48 (he.2.1 rfl);have hc0:=eC A (.bool false);exact pZ rfl
 ·exact λ_ _ _ _ _ e=>xM rfl (e.1 rfl)
 ·exact λ_ _ a _ _ e=>yM (e.1 rfl) rfl (a 7 rfl)
 ·exact λ_ _ a _ _ e=>yM (e.1 rfl) rfl (a 9 rfl)
 ·intro A w1 hA hL hS he;have hb:=hS rfl;have h50:=eT 50 (he.2.2.1 rfl);have h51:=eT 51 (he.1 rfl);have h52:=eT 52 (he.2.1 rfl);have hf0:=eF A 20;exact cY (f:=20) (args:=#[vp,.int .i64 (k:Int)]) h50 (c7.out _ _ (hp.on hb))
 ·exact λ_ _ a _ _ e=>yM (e.1 rfl) rfl (a 7 rfl)
 ·exact λ_ _ a _ _ e=>yM (e.1 rfl) rfl (a 9 rfl)
 ·intro A w1 hA hL hS he;have hb:=hS rfl;have h50:=eT 50 (he.2.2.2.1 rfl);have h54:=eT 54 (he.1 rfl);have h55:=eT 55 (he.2.1 rfl);have hf0:=eF A 21;exact cY (f:=21) (args:=#[vp,.int .i64 (k:Int)]) h50 (c8.out _ _ (hp.on hb))
 ·intro A w1 hA hL hS he;have hb:=hS rfl;have h50:=eT 50 (he.2.2.2.1 rfl);obtain⟨v53,h53,f53⟩:=fT 53 (he.1 rfl);obtain⟨v56,h56,f56⟩:=fT 56 (he.2.1 rfl);have hf0:=eF A 13;exact cY (f:=13) (args:=#[v53,v56]) h50 (Jc B B rfl f53 f56)
 ·intro A w1 hA hL hS he;have h50:=eT 50 (he.1 rfl);have h57:=eT 57 (he.2.1 rfl);have hc0:=eC A (.bool false);exact pZ rfl
 ·exact λ_ _ _ _ _ e=>xM rfl (e.1 rfl)
 ·exact λ_ _ a _ _ e=>yM (e.1 rfl) rfl (a 5 rfl)
 ·intro A w1 hA hL hS he;have h59:=eT 59 (he.1 rfl);have h60:=eT 60 (he.2.1 rfl);have hc0:=eC A (.bool false);exact pZ rfl
 intro w4 hL;simp only[aT,af.eq,af.poly,af.ret,af.of,lZ];rintro _ - _ - _ - _ - _ - _ - _ - _ -;go_frame;replace hb0:=hb0.trans (hL.below.mono hb0.size);clear hL;go_wp2;go_ret;exact⟨rfl,hb0⟩
end Go.Proofs.YtopclbeomcggiaaGreat
